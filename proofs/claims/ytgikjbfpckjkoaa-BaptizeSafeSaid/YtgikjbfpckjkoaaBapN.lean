/- Declarations cut out of other texts of mine. -/
import Derived.Test.YtgikjbfpckjkoaaTy
import Derived.Test.YtgikjbfpckjkoaaAx20
namespace Go.Proofs.Ytgikjbfpckjkoaa.BapN
set_option linter.unusedSimpArgs false
set_option linter.unusedVariables false
open Go Go.AX Go.Proofs Ty
set_option maxHeartbeats 4000000
set_option maxRecDepth 10000

structure Slv where
  phys : Int
  name : Int
def enc (s : Slv) : List Value := [.int .u64 s.phys, .int .i64 s.name]
def zs : Slv := ⟨0, 0⟩
theorem enc_len (s : Slv) : (enc s).length = 2 := rfl
theorem enc0 (s : Slv) : (enc s)[0]? = some (.int .u64 s.phys) := rfl
theorem enc1 (s : Slv) : (enc s)[1]? = some (.int .i64 s.name) := rfl
theorem enc_scal (s : Slv) : (enc s).all scal = true := rfl
theorem map_get {α : Type} {f : α → List Value} {L : List α} {i : Nat} {s : α} (h : L[i]? = some s) : (L.map f)[i]? = some (f s) := by rw [List.getElem?_map, h]; rfl
theorem lt_of_get {α : Type} {l : List α} {i : Nat} {s : α} (h : l[i]? = some s) : i < l.length := by
  rcases Nat.lt_or_ge i l.length with h' | h'
  · exact h'
  · rw [List.getElem?_eq_none h'] at h; cases h

/-! ### Where the first one is -/
def idxG {α : Type} (p : α → Bool) : List α → Int → Int
  | [], _ => -1
  | s :: l, i => if p s = true then i else idxG p l (i + 1)
theorem idxG_at {α : Type} {p : α → Bool} : ∀ (l : List α) (i : Nat) (k : Int) (s : α), (∀ (j : Nat) (s' : α), j < i → l[j]? = some s' → p s' = false) → l[i]? = some s → p s = true → idxG p l k = k + i
  | [], i, k, s, _, h, _ => by simp at h
  | x :: l, 0, k, s, _, h, hp => by simp at h; subst h; simp [idxG, hp]
  | x :: l, i + 1, k, s, hn, h, hp => by
    have h0 := hn 0 x (by omega) rfl
    simp only [idxG, h0, Bool.false_eq_true, if_false]
    rw [idxG_at l i (k + 1) s (fun j s' hj h' => hn (j + 1) s' (by omega) (by simpa using h')) (by simpa using h) hp]
    omega
theorem idxG_none {α : Type} {p : α → Bool} : ∀ (l : List α) (k : Int), (∀ (j : Nat) (s' : α), l[j]? = some s' → p s' = false) → idxG p l k = -1
  | [], _, _ => rfl
  | x :: l, k, hn => by
    have h0 := hn 0 x rfl
    simp only [idxG, h0, Bool.false_eq_true, if_false]
    exact idxG_none l (k + 1) (fun j s' h' => hn (j + 1) s' (by simpa using h'))
theorem idxG_any {α : Type} {p : α → Bool} : ∀ (l : List α) (k : Int), 0 ≤ k → (decide (0 ≤ idxG p l k)) = l.any p
  | [], _, _ => rfl
  | x :: l, k, hk => by
    by_cases hp : p x = true
    · have e : idxG p (x :: l) k = k := if_pos hp
      rw [e, List.any_cons, hp]; simp [hk]
    · have e : idxG p (x :: l) k = idxG p l (k + 1) := if_neg hp
      rw [e, List.any_cons, idxG_any l (k + 1) (by omega)]
      simp only [Bool.not_eq_true] at hp
      rw [hp, Bool.false_or]
theorem IndexFunc_c (g : Nat) (caps : List Value) (hok : fnOk Try.prog g = true) (p : Slv → Bool) (L : List Slv) (base : Option Addr) (cap : Nat) (H : AH) (hs : SlcIn H 2 base cap (L.map enc))
    (hcall : ∀ s ∈ L, ACalls Try.prog g (.agg (enc s).toArray :: caps).toArray H (fun v H' => v = .bool (p s) ∧ H = H')) :
    ACalls Try.prog 67 #[.slice base L.length cap, .func (.func g) (List.toArray []) caps.toArray] H (fun v H' => v = .int .i64 (idxG p L 0) ∧ H = H') := by
  have hle := hs.le
  have hbig := hs.big
  simp only [List.length_map] at hle hbig
  refine ACalls.enter2 Try.func67 rfl Try.ntmps67 Try.results67 (by simp) ?_; simp (dsimp := false) (maxSteps := 4000000) only [hok, go_sem, ↓reduceIte, Nat.reduceEqDiff, Nat.reduceLT, Nat.reduceLeDiff, Nat.reduceAdd, Nat.reduceMul, Nat.reduceSub, reduceCtorEq, Int.reduceToNat, Int.reduceLT, Int.reduceLE, Int.reduceEq, Int.reduceNe, Int.reduceBEq, Nat.reduceBEq, Int.reduceBNe, Nat.reduceBNe, Int.reduceAdd, Int.reduceSub, Int.reduceMul, Int.reduceNeg]
  refine AWp.loopo (ι := Nat) (fun i => i ≤ L.length ∧ ∀ (j : Nat) (s' : Slv), j < i → L[j]? = some s' → p s' = false) (fun i => [(8, .int .i64 i), (7, .int .i64 L.length), (0, .slice base L.length cap), (1, .func (.func g) (List.toArray []) caps.toArray)])
    (fun _ => H) (fun i => L.length - i) 0 ⟨by omega, fun j s' hj => by omega⟩ (FrLe.of_lks ?_) (AH.le_refl _) fun i hi Q again out => ?_
  · simp (dsimp := false) (maxSteps := 4000000) only [hok, go_sem, ↓reduceIte, Nat.reduceEqDiff, Nat.reduceLT, Nat.reduceLeDiff, Nat.reduceAdd, Nat.reduceMul, Nat.reduceSub, reduceCtorEq, Int.reduceToNat, Int.reduceLT, Int.reduceLE, Int.reduceEq, Int.reduceNe, Int.reduceBEq, Nat.reduceBEq, Int.reduceBNe, Nat.reduceBNe, Int.reduceAdd, Int.reduceSub, Int.reduceMul, Int.reduceNeg]
  · obtain ⟨hi, hn⟩ := hi
    by_cases h : (i : Int) < L.length
    · obtain ⟨s, hx⟩ := get_some (l := L) (i := i) (by omega)
      obtain ⟨b, o, rfl, hrow, hrd⟩ := hs.get (map_get (f := enc) hx)
      have e1 := i64_succ (i := i) (by omega)
      simp (dsimp := false) (maxSteps := 4000000) only [h, hrow, hok, go_sem, ↓reduceIte, Nat.reduceEqDiff, Nat.reduceLT, Nat.reduceLeDiff, Nat.reduceAdd, Nat.reduceMul, Nat.reduceSub, reduceCtorEq, Int.reduceToNat, Int.reduceLT, Int.reduceLE, Int.reduceEq, Int.reduceNe, Int.reduceBEq, Nat.reduceBEq, Int.reduceBNe, Nat.reduceBNe, Int.reduceAdd, Int.reduceSub, Int.reduceMul, Int.reduceNeg]
      refine (hcall s (List.mem_of_getElem? hx)).mono ?_; rintro _ _ ⟨rfl, rfl⟩
      cases hp : p s with
      | true =>
        simp (dsimp := false) (maxSteps := 4000000) only [hok, go_sem, ↓reduceIte, Nat.reduceEqDiff, Nat.reduceLT, Nat.reduceLeDiff, Nat.reduceAdd, Nat.reduceMul, Nat.reduceSub, reduceCtorEq, Int.reduceToNat, Int.reduceLT, Int.reduceLE, Int.reduceEq, Int.reduceNe, Int.reduceBEq, Nat.reduceBEq, Int.reduceBNe, Nat.reduceBNe, Int.reduceAdd, Int.reduceSub, Int.reduceMul, Int.reduceNeg]
        refine out _ _ _ (by simp) ?_
        simp (dsimp := false) (maxSteps := 4000000) only [hok, go_sem, ↓reduceIte, Nat.reduceEqDiff, Nat.reduceLT, Nat.reduceLeDiff, Nat.reduceAdd, Nat.reduceMul, Nat.reduceSub, reduceCtorEq, Int.reduceToNat, Int.reduceLT, Int.reduceLE, Int.reduceEq, Int.reduceNe, Int.reduceBEq, Nat.reduceBEq, Int.reduceBNe, Nat.reduceBNe, Int.reduceAdd, Int.reduceSub, Int.reduceMul, Int.reduceNeg]
        exact ⟨H, (AH.le_refl _), (by first | exact ⟨by rw [idxG_at L i 0 s hn hx hp]; simp, rfl⟩ | rfl)⟩
      | false =>
        simp (dsimp := false) (maxSteps := 4000000) only [e1, hok, go_sem, ↓reduceIte, Nat.reduceEqDiff, Nat.reduceLT, Nat.reduceLeDiff, Nat.reduceAdd, Nat.reduceMul, Nat.reduceSub, reduceCtorEq, Int.reduceToNat, Int.reduceLT, Int.reduceLE, Int.reduceEq, Int.reduceNe, Int.reduceBEq, Nat.reduceBEq, Int.reduceBNe, Nat.reduceBNe, Int.reduceAdd, Int.reduceSub, Int.reduceMul, Int.reduceNeg]
        refine again (i + 1) _ _ ⟨by omega, fun j s' hj h' => ?_⟩ (FrLe.of_lks (by simp (dsimp := false) (maxSteps := 4000000) only [hok, go_sem, ↓reduceIte, Nat.reduceEqDiff, Nat.reduceLT, Nat.reduceLeDiff, Nat.reduceAdd, Nat.reduceMul, Nat.reduceSub, reduceCtorEq, Int.reduceToNat, Int.reduceLT, Int.reduceLE, Int.reduceEq, Int.reduceNe, Int.reduceBEq, Nat.reduceBEq, Int.reduceBNe, Nat.reduceBNe, Int.reduceAdd, Int.reduceSub, Int.reduceMul, Int.reduceNeg])) (AH.le_refl _) (by omega)
        by_cases hj2 : j = i
        · subst hj2; rw [hx] at h'; cases h'; exact hp
        · exact hn j s' (by omega) h'
    · have hall : ∀ (j : Nat) (s' : Slv), L[j]? = some s' → p s' = false := fun j s' h' => hn j s' (by have := lt_of_get h'; omega) h'
      simp (dsimp := false) (maxSteps := 4000000) only [h, hok, go_sem, ↓reduceIte, Nat.reduceEqDiff, Nat.reduceLT, Nat.reduceLeDiff, Nat.reduceAdd, Nat.reduceMul, Nat.reduceSub, reduceCtorEq, Int.reduceToNat, Int.reduceLT, Int.reduceLE, Int.reduceEq, Int.reduceNe, Int.reduceBEq, Nat.reduceBEq, Int.reduceBNe, Nat.reduceBNe, Int.reduceAdd, Int.reduceSub, Int.reduceMul, Int.reduceNeg]
      refine out _ _ _ (by simp) ?_
      simp (dsimp := false) (maxSteps := 4000000) only [hok, go_sem, ↓reduceIte, Nat.reduceEqDiff, Nat.reduceLT, Nat.reduceLeDiff, Nat.reduceAdd, Nat.reduceMul, Nat.reduceSub, reduceCtorEq, Int.reduceToNat, Int.reduceLT, Int.reduceLE, Int.reduceEq, Int.reduceNe, Int.reduceBEq, Nat.reduceBEq, Int.reduceBNe, Nat.reduceBNe, Int.reduceAdd, Int.reduceSub, Int.reduceMul, Int.reduceNeg]
      exact ⟨H, (AH.le_refl _), (by first | exact ⟨by rw [idxG_none L 0 hall], rfl⟩ | rfl)⟩
theorem ContainsFunc_c (g : Nat) (caps : List Value) (hok : fnOk Try.prog g = true) (p : Slv → Bool) (L : List Slv) (base : Option Addr) (cap : Nat) (H : AH) (hs : SlcIn H 2 base cap (L.map enc))
    (hcall : ∀ s ∈ L, ACalls Try.prog g (.agg (enc s).toArray :: caps).toArray H (fun v H' => v = .bool (p s) ∧ H = H')) :
    ACalls Try.prog 73 #[.slice base L.length cap, .func (.func g) (List.toArray []) caps.toArray] H (fun v H' => v = .bool (L.any p) ∧ H = H') := by
  refine ACalls.enter2 Try.func73 rfl Try.ntmps73 Try.results73 (by simp) ?_; simp (dsimp := false) (maxSteps := 4000000) only [go_sem, ↓reduceIte, Nat.reduceEqDiff, Nat.reduceLT, Nat.reduceLeDiff, Nat.reduceAdd, Nat.reduceMul, Nat.reduceSub, reduceCtorEq, Int.reduceToNat, Int.reduceLT, Int.reduceLE, Int.reduceEq, Int.reduceNe, Int.reduceBEq, Nat.reduceBEq, Int.reduceBNe, Nat.reduceBNe, Int.reduceAdd, Int.reduceSub, Int.reduceMul, Int.reduceNeg]
  refine (IndexFunc_c g caps hok p L base cap _ hs hcall).mono ?_; rintro _ _ ⟨rfl, rfl⟩
  simp (dsimp := false) (maxSteps := 4000000) only [idxG_any L 0 (by omega), go_sem, ↓reduceIte, Nat.reduceEqDiff, Nat.reduceLT, Nat.reduceLeDiff, Nat.reduceAdd, Nat.reduceMul, Nat.reduceSub, reduceCtorEq, Int.reduceToNat, Int.reduceLT, Int.reduceLE, Int.reduceEq, Int.reduceNe, Int.reduceBEq, Nat.reduceBEq, Int.reduceBNe, Nat.reduceBNe, Int.reduceAdd, Int.reduceSub, Int.reduceMul, Int.reduceNeg]
  exact ⟨H, (AH.le_refl _), (by first | exact ⟨rfl, rfl⟩ | rfl)⟩
theorem has_c (L : List Slv) (n : Int) (base : Option Addr) (cap : Nat) (H : AH) (hs : SlcIn H 2 base cap (L.map enc)) :
    ACalls Try.prog 100 #[.slice base L.length cap, .int .i64 n] H (fun v H' => v = .bool (L.any fun s => s.name == n) ∧ H = H') := by
  have hle := hs.le
  have hbig := hs.big
  simp only [List.length_map] at hle hbig
  refine ACalls.enter2 Try.func100 rfl Try.ntmps100 Try.results100 (by simp) ?_; simp (dsimp := false) (maxSteps := 4000000) only [go_sem, ↓reduceIte, Nat.reduceEqDiff, Nat.reduceLT, Nat.reduceLeDiff, Nat.reduceAdd, Nat.reduceMul, Nat.reduceSub, reduceCtorEq, Int.reduceToNat, Int.reduceLT, Int.reduceLE, Int.reduceEq, Int.reduceNe, Int.reduceBEq, Nat.reduceBEq, Int.reduceBNe, Nat.reduceBNe, Int.reduceAdd, Int.reduceSub, Int.reduceMul, Int.reduceNeg]
  refine AWp.loopo (ι := Nat) (fun i => i ≤ L.length ∧ ∀ (j : Nat) (s' : Slv), j < i → L[j]? = some s' → ¬ s'.name = n) (fun i => [(5, .int .i64 i), (0, .slice base L.length cap), (1, .int .i64 n)])
    (fun _ => H) (fun i => L.length - i) 0 ⟨by omega, fun j s' hj => by omega⟩ (FrLe.of_lks ?_) (AH.le_refl _) fun i hi Q again out => ?_
  · simp (dsimp := false) (maxSteps := 4000000) only [go_sem, ↓reduceIte, Nat.reduceEqDiff, Nat.reduceLT, Nat.reduceLeDiff, Nat.reduceAdd, Nat.reduceMul, Nat.reduceSub, reduceCtorEq, Int.reduceToNat, Int.reduceLT, Int.reduceLE, Int.reduceEq, Int.reduceNe, Int.reduceBEq, Nat.reduceBEq, Int.reduceBNe, Nat.reduceBNe, Int.reduceAdd, Int.reduceSub, Int.reduceMul, Int.reduceNeg]
  · obtain ⟨hi, hn⟩ := hi
    by_cases h : (i : Int) < L.length
    · obtain ⟨s, hx⟩ := get_some (l := L) (i := i) (by omega)
      obtain ⟨b, o, rfl, hrow, hrd⟩ := hs.get (map_get (f := enc) hx)
      have r1 := hrd 1 _ rfl
      have e1 := i64_succ (i := i) (by omega)
      by_cases hp : s.name = n
      · simp (dsimp := false) (maxSteps := 4000000) only [h, r1, hp, go_sem, ↓reduceIte, Nat.reduceEqDiff, Nat.reduceLT, Nat.reduceLeDiff, Nat.reduceAdd, Nat.reduceMul, Nat.reduceSub, reduceCtorEq, Int.reduceToNat, Int.reduceLT, Int.reduceLE, Int.reduceEq, Int.reduceNe, Int.reduceBEq, Nat.reduceBEq, Int.reduceBNe, Nat.reduceBNe, Int.reduceAdd, Int.reduceSub, Int.reduceMul, Int.reduceNeg]
        refine out _ _ _ (by simp) ?_
        simp (dsimp := false) (maxSteps := 4000000) only [go_sem, ↓reduceIte, Nat.reduceEqDiff, Nat.reduceLT, Nat.reduceLeDiff, Nat.reduceAdd, Nat.reduceMul, Nat.reduceSub, reduceCtorEq, Int.reduceToNat, Int.reduceLT, Int.reduceLE, Int.reduceEq, Int.reduceNe, Int.reduceBEq, Nat.reduceBEq, Int.reduceBNe, Nat.reduceBNe, Int.reduceAdd, Int.reduceSub, Int.reduceMul, Int.reduceNeg]
        exact ⟨H, (AH.le_refl _), (by first | exact ⟨by rw [show (L.any fun s => s.name == n) = true from List.any_eq_true.2 ⟨s, List.mem_of_getElem? hx, by simp [hp]⟩], rfl⟩ | rfl)⟩
      · simp (dsimp := false) (maxSteps := 4000000) only [h, r1, hp, e1, go_sem, ↓reduceIte, Nat.reduceEqDiff, Nat.reduceLT, Nat.reduceLeDiff, Nat.reduceAdd, Nat.reduceMul, Nat.reduceSub, reduceCtorEq, Int.reduceToNat, Int.reduceLT, Int.reduceLE, Int.reduceEq, Int.reduceNe, Int.reduceBEq, Nat.reduceBEq, Int.reduceBNe, Nat.reduceBNe, Int.reduceAdd, Int.reduceSub, Int.reduceMul, Int.reduceNeg]
        refine again (i + 1) _ _ ⟨by omega, fun j s' hj h' => ?_⟩ (FrLe.of_lks (by simp (dsimp := false) (maxSteps := 4000000) only [go_sem, ↓reduceIte, Nat.reduceEqDiff, Nat.reduceLT, Nat.reduceLeDiff, Nat.reduceAdd, Nat.reduceMul, Nat.reduceSub, reduceCtorEq, Int.reduceToNat, Int.reduceLT, Int.reduceLE, Int.reduceEq, Int.reduceNe, Int.reduceBEq, Nat.reduceBEq, Int.reduceBNe, Nat.reduceBNe, Int.reduceAdd, Int.reduceSub, Int.reduceMul, Int.reduceNeg])) (AH.le_refl _) (by omega)
        by_cases hj2 : j = i
        · subst hj2; rw [hx] at h'; cases h'; exact hp
        · exact hn j s' (by omega) h'
    · have hall : (L.any fun s => s.name == n) = false := by
        rw [List.any_eq_false]
        intro s hs'
        obtain ⟨j, hj⟩ := List.mem_iff_getElem?.1 hs'
        simpa using hn j s (by have := lt_of_get hj; omega) hj
      simp (dsimp := false) (maxSteps := 4000000) only [h, go_sem, ↓reduceIte, Nat.reduceEqDiff, Nat.reduceLT, Nat.reduceLeDiff, Nat.reduceAdd, Nat.reduceMul, Nat.reduceSub, reduceCtorEq, Int.reduceToNat, Int.reduceLT, Int.reduceLE, Int.reduceEq, Int.reduceNe, Int.reduceBEq, Nat.reduceBEq, Int.reduceBNe, Nat.reduceBNe, Int.reduceAdd, Int.reduceSub, Int.reduceMul, Int.reduceNeg]
      refine out _ _ _ (by simp) ?_
      simp (dsimp := false) (maxSteps := 4000000) only [go_sem, ↓reduceIte, Nat.reduceEqDiff, Nat.reduceLT, Nat.reduceLeDiff, Nat.reduceAdd, Nat.reduceMul, Nat.reduceSub, reduceCtorEq, Int.reduceToNat, Int.reduceLT, Int.reduceLE, Int.reduceEq, Int.reduceNe, Int.reduceBEq, Nat.reduceBEq, Int.reduceBNe, Nat.reduceBNe, Int.reduceAdd, Int.reduceSub, Int.reduceMul, Int.reduceNeg]
      exact ⟨H, (AH.le_refl _), (by first | exact ⟨by rw [hall], rfl⟩ | rfl)⟩
/-- Who is least of the first i that have no name. -/
def atN (L : List Slv) : Nat → Option Nat
  | 0 => none
  | i + 1 => match atN L i with
    | none => if (L.getD i zs).name = 0 then some i else none
    | some k => if (L.getD i zs).name = 0 ∧ (L.getD i zs).phys < (L.getD k zs).phys then some i else some k
theorem getD_of {L : List Slv} {i : Nat} {s : Slv} (h : L[i]? = some s) : L.getD i zs = s := by rw [List.getD_eq_getElem?_getD, h]; rfl
theorem atN_first {L : List Slv} {i : Nat} {s : Slv} (hx : L[i]? = some s) (h : atN L i = none) : atN L (i + 1) = if s.name = 0 then some i else none := by
  simp only [atN, h, getD_of hx]
theorem atN_next {L : List Slv} {i k : Nat} {s t : Slv} (hx : L[i]? = some s) (hk : L[k]? = some t) (h : atN L i = some k) : atN L (i + 1) = if s.name = 0 ∧ s.phys < t.phys then some i else some k := by
  simp only [atN, h, getD_of hx, getD_of hk]
theorem atN_lt {L : List Slv} : ∀ {i k : Nat}, atN L i = some k → k < i
  | 0, _, h => by cases h
  | i + 1, k, h => by
    simp only [atN] at h
    split at h
    · split at h
      · cases h; omega
      · cases h
    · rename_i k' hk'
      have := atN_lt hk'
      split at h <;> cases h <;> omega
def leastP (L : List Slv) (i : Nat) : Int := match atN L i with | none => 0 | some k => (L.getD k zs).phys
def leastI (L : List Slv) (i : Nat) : Int := match atN L i with | none => -1 | some k => k
theorem Least_c (L : List Slv) (base : Option Addr) (cap : Nat) (H : AH) (hs : SlcIn H 2 base cap (L.map enc)) :
    ACalls Try.prog 64 #[.slice base L.length cap] H (fun v H' => v = .tuple #[.int .u64 (leastP L L.length), .bool (atN L L.length).isSome] ∧ H = H') := by
  have hle := hs.le
  have hbig := hs.big
  simp only [List.length_map] at hle hbig
  refine ACalls.enter2 Try.func64 rfl Try.ntmps64 Try.results64 (by simp) ?_; simp (dsimp := false) (maxSteps := 4000000) only [go_sem, ↓reduceIte, Nat.reduceEqDiff, Nat.reduceLT, Nat.reduceLeDiff, Nat.reduceAdd, Nat.reduceMul, Nat.reduceSub, reduceCtorEq, Int.reduceToNat, Int.reduceLT, Int.reduceLE, Int.reduceEq, Int.reduceNe, Int.reduceBEq, Nat.reduceBEq, Int.reduceBNe, Nat.reduceBNe, Int.reduceAdd, Int.reduceSub, Int.reduceMul, Int.reduceNeg]
  refine AWp.loopo (ι := Nat) (fun i => i ≤ L.length) (fun i => [(10, .int .i64 i), (4, .int .u64 (leastP L i)), (5, .bool (atN L i).isSome), (9, .int .i64 L.length), (8, .slice base L.length cap)])
    (fun _ => H) (fun i => L.length - i) 0 (by omega) (FrLe.of_lks ?_) (AH.le_refl _) fun i hi Q again out => ?_
  · simp (dsimp := false) (maxSteps := 4000000) only [go_sem, ↓reduceIte, Nat.reduceEqDiff, Nat.reduceLT, Nat.reduceLeDiff, Nat.reduceAdd, Nat.reduceMul, Nat.reduceSub, reduceCtorEq, Int.reduceToNat, Int.reduceLT, Int.reduceLE, Int.reduceEq, Int.reduceNe, Int.reduceBEq, Nat.reduceBEq, Int.reduceBNe, Nat.reduceBNe, Int.reduceAdd, Int.reduceSub, Int.reduceMul, Int.reduceNeg]
    exact ⟨rfl, rfl⟩
  · by_cases h : (i : Int) < L.length
    · obtain ⟨s, hx⟩ := get_some (l := L) (i := i) (by omega)
      obtain ⟨b, o, rfl, hrow, hrd⟩ := hs.get (map_get (f := enc) hx)
      have e1 := i64_succ (i := i) (by omega)
      unfold enc at hrow
      cases hat : atN L i with
      | none =>
        have hp : leastP L i = 0 := by simp only [leastP, hat]
        have hnx := atN_first hx hat
        
        simp (dsimp := false) (maxSteps := 4000000) only [h, hrow, hp, go_sem, ↓reduceIte, Nat.reduceEqDiff, Nat.reduceLT, Nat.reduceLeDiff, Nat.reduceAdd, Nat.reduceMul, Nat.reduceSub, reduceCtorEq, Int.reduceToNat, Int.reduceLT, Int.reduceLE, Int.reduceEq, Int.reduceNe, Int.reduceBEq, Nat.reduceBEq, Int.reduceBNe, Nat.reduceBNe, Int.reduceAdd, Int.reduceSub, Int.reduceMul, Int.reduceNeg]
        refine AllB.mk fun b1 h_b1 => ?_; have hn_b1 := h_b1; (try simp only [fresh_add, fresh_set, ne_eq] at hn_b1); have hr_b1 := hn_b1; (try simp only [@eq_comm Nat b1] at hr_b1); simp (dsimp := false) (maxSteps := 4000000) only [hn_b1, hr_b1, go_sem, ↓reduceIte, Nat.reduceEqDiff, Nat.reduceLT, Nat.reduceLeDiff, Nat.reduceAdd, Nat.reduceMul, Nat.reduceSub, reduceCtorEq, Int.reduceToNat, Int.reduceLT, Int.reduceLE, Int.reduceEq, Int.reduceNe, Int.reduceBEq, Nat.reduceBEq, Int.reduceBNe, Nat.reduceBNe, Int.reduceAdd, Int.reduceSub, Int.reduceMul, Int.reduceNeg]
        by_cases hn : s.name = 0
        · rw [if_pos hn] at hnx
          have hp2 : leastP L (i + 1) = s.phys := by simp only [leastP, hnx, getD_of hx]
          simp (dsimp := false) (maxSteps := 4000000) only [hn, e1, hn_b1, hr_b1, go_sem, ↓reduceIte, Nat.reduceEqDiff, Nat.reduceLT, Nat.reduceLeDiff, Nat.reduceAdd, Nat.reduceMul, Nat.reduceSub, reduceCtorEq, Int.reduceToNat, Int.reduceLT, Int.reduceLE, Int.reduceEq, Int.reduceNe, Int.reduceBEq, Nat.reduceBEq, Int.reduceBNe, Nat.reduceBNe, Int.reduceAdd, Int.reduceSub, Int.reduceMul, Int.reduceNeg]
          exact again (i + 1) _ _ (by omega) (FrLe.of_lks (by rw [hp2, hnx]; simp (dsimp := false) (maxSteps := 4000000) only [hp, hn_b1, hr_b1, go_sem, ↓reduceIte, Nat.reduceEqDiff, Nat.reduceLT, Nat.reduceLeDiff, Nat.reduceAdd, Nat.reduceMul, Nat.reduceSub, reduceCtorEq, Int.reduceToNat, Int.reduceLT, Int.reduceLE, Int.reduceEq, Int.reduceNe, Int.reduceBEq, Nat.reduceBEq, Int.reduceBNe, Nat.reduceBNe, Int.reduceAdd, Int.reduceSub, Int.reduceMul, Int.reduceNeg])) (AH.le_add (AH.le_refl _) ((by simp only [fresh_add, fresh_set, ne_eq, hn_b1, not_false_eq_true, and_self] : Fresh _ b1).2)) (by omega)
        · rw [if_neg hn] at hnx
          have hp2 : leastP L (i + 1) = 0 := by simp only [leastP, hnx]
          simp (dsimp := false) (maxSteps := 4000000) only [hn, e1, hn_b1, hr_b1, go_sem, ↓reduceIte, Nat.reduceEqDiff, Nat.reduceLT, Nat.reduceLeDiff, Nat.reduceAdd, Nat.reduceMul, Nat.reduceSub, reduceCtorEq, Int.reduceToNat, Int.reduceLT, Int.reduceLE, Int.reduceEq, Int.reduceNe, Int.reduceBEq, Nat.reduceBEq, Int.reduceBNe, Nat.reduceBNe, Int.reduceAdd, Int.reduceSub, Int.reduceMul, Int.reduceNeg]
          exact again (i + 1) _ _ (by omega) (FrLe.of_lks (by rw [hp2, hnx]; simp (dsimp := false) (maxSteps := 4000000) only [hp, hn_b1, hr_b1, go_sem, ↓reduceIte, Nat.reduceEqDiff, Nat.reduceLT, Nat.reduceLeDiff, Nat.reduceAdd, Nat.reduceMul, Nat.reduceSub, reduceCtorEq, Int.reduceToNat, Int.reduceLT, Int.reduceLE, Int.reduceEq, Int.reduceNe, Int.reduceBEq, Nat.reduceBEq, Int.reduceBNe, Nat.reduceBNe, Int.reduceAdd, Int.reduceSub, Int.reduceMul, Int.reduceNeg])) (AH.le_add (AH.le_refl _) ((by simp only [fresh_add, fresh_set, ne_eq, hn_b1, not_false_eq_true, and_self] : Fresh _ b1).2)) (by omega)
        
      | some k =>
        have hk := atN_lt hat
        obtain ⟨t, hkt⟩ := get_some (l := L) (i := k) (by omega)
        have hp : leastP L i = t.phys := by simp only [leastP, hat, getD_of hkt]
        have hnx := atN_next hx hkt hat
        
        simp (dsimp := false) (maxSteps := 4000000) only [h, hrow, hp, go_sem, ↓reduceIte, Nat.reduceEqDiff, Nat.reduceLT, Nat.reduceLeDiff, Nat.reduceAdd, Nat.reduceMul, Nat.reduceSub, reduceCtorEq, Int.reduceToNat, Int.reduceLT, Int.reduceLE, Int.reduceEq, Int.reduceNe, Int.reduceBEq, Nat.reduceBEq, Int.reduceBNe, Nat.reduceBNe, Int.reduceAdd, Int.reduceSub, Int.reduceMul, Int.reduceNeg]
        refine AllB.mk fun b1 h_b1 => ?_; have hn_b1 := h_b1; (try simp only [fresh_add, fresh_set, ne_eq] at hn_b1); have hr_b1 := hn_b1; (try simp only [@eq_comm Nat b1] at hr_b1); simp (dsimp := false) (maxSteps := 4000000) only [hn_b1, hr_b1, go_sem, ↓reduceIte, Nat.reduceEqDiff, Nat.reduceLT, Nat.reduceLeDiff, Nat.reduceAdd, Nat.reduceMul, Nat.reduceSub, reduceCtorEq, Int.reduceToNat, Int.reduceLT, Int.reduceLE, Int.reduceEq, Int.reduceNe, Int.reduceBEq, Nat.reduceBEq, Int.reduceBNe, Nat.reduceBNe, Int.reduceAdd, Int.reduceSub, Int.reduceMul, Int.reduceNeg]
        by_cases hn : s.name = 0
        · by_cases hlt : s.phys < t.phys
          · rw [if_pos ⟨hn, hlt⟩] at hnx
            have hp2 : leastP L (i + 1) = s.phys := by simp only [leastP, hnx, getD_of hx]
            simp (dsimp := false) (maxSteps := 4000000) only [hn, hp, hlt, e1, hn_b1, hr_b1, go_sem, ↓reduceIte, Nat.reduceEqDiff, Nat.reduceLT, Nat.reduceLeDiff, Nat.reduceAdd, Nat.reduceMul, Nat.reduceSub, reduceCtorEq, Int.reduceToNat, Int.reduceLT, Int.reduceLE, Int.reduceEq, Int.reduceNe, Int.reduceBEq, Nat.reduceBEq, Int.reduceBNe, Nat.reduceBNe, Int.reduceAdd, Int.reduceSub, Int.reduceMul, Int.reduceNeg]
            exact again (i + 1) _ _ (by omega) (FrLe.of_lks (by rw [hp2, hnx]; simp (dsimp := false) (maxSteps := 4000000) only [hp, hn_b1, hr_b1, go_sem, ↓reduceIte, Nat.reduceEqDiff, Nat.reduceLT, Nat.reduceLeDiff, Nat.reduceAdd, Nat.reduceMul, Nat.reduceSub, reduceCtorEq, Int.reduceToNat, Int.reduceLT, Int.reduceLE, Int.reduceEq, Int.reduceNe, Int.reduceBEq, Nat.reduceBEq, Int.reduceBNe, Nat.reduceBNe, Int.reduceAdd, Int.reduceSub, Int.reduceMul, Int.reduceNeg])) (AH.le_add (AH.le_refl _) ((by simp only [fresh_add, fresh_set, ne_eq, hn_b1, not_false_eq_true, and_self] : Fresh _ b1).2)) (by omega)
          · rw [if_neg (fun h => hlt h.2)] at hnx
            have hp2 : leastP L (i + 1) = t.phys := by simp only [leastP, hnx, getD_of hkt]
            simp (dsimp := false) (maxSteps := 4000000) only [hn, hp, hlt, e1, hn_b1, hr_b1, go_sem, ↓reduceIte, Nat.reduceEqDiff, Nat.reduceLT, Nat.reduceLeDiff, Nat.reduceAdd, Nat.reduceMul, Nat.reduceSub, reduceCtorEq, Int.reduceToNat, Int.reduceLT, Int.reduceLE, Int.reduceEq, Int.reduceNe, Int.reduceBEq, Nat.reduceBEq, Int.reduceBNe, Nat.reduceBNe, Int.reduceAdd, Int.reduceSub, Int.reduceMul, Int.reduceNeg]
            exact again (i + 1) _ _ (by omega) (FrLe.of_lks (by rw [hp2, hnx]; simp (dsimp := false) (maxSteps := 4000000) only [hp, hn_b1, hr_b1, go_sem, ↓reduceIte, Nat.reduceEqDiff, Nat.reduceLT, Nat.reduceLeDiff, Nat.reduceAdd, Nat.reduceMul, Nat.reduceSub, reduceCtorEq, Int.reduceToNat, Int.reduceLT, Int.reduceLE, Int.reduceEq, Int.reduceNe, Int.reduceBEq, Nat.reduceBEq, Int.reduceBNe, Nat.reduceBNe, Int.reduceAdd, Int.reduceSub, Int.reduceMul, Int.reduceNeg])) (AH.le_add (AH.le_refl _) ((by simp only [fresh_add, fresh_set, ne_eq, hn_b1, not_false_eq_true, and_self] : Fresh _ b1).2)) (by omega)
        · rw [if_neg (fun h => hn h.1)] at hnx
          have hp2 : leastP L (i + 1) = t.phys := by simp only [leastP, hnx, getD_of hkt]
          simp (dsimp := false) (maxSteps := 4000000) only [hn, e1, hn_b1, hr_b1, go_sem, ↓reduceIte, Nat.reduceEqDiff, Nat.reduceLT, Nat.reduceLeDiff, Nat.reduceAdd, Nat.reduceMul, Nat.reduceSub, reduceCtorEq, Int.reduceToNat, Int.reduceLT, Int.reduceLE, Int.reduceEq, Int.reduceNe, Int.reduceBEq, Nat.reduceBEq, Int.reduceBNe, Nat.reduceBNe, Int.reduceAdd, Int.reduceSub, Int.reduceMul, Int.reduceNeg]
          exact again (i + 1) _ _ (by omega) (FrLe.of_lks (by rw [hp2, hnx]; simp (dsimp := false) (maxSteps := 4000000) only [hp, hn_b1, hr_b1, go_sem, ↓reduceIte, Nat.reduceEqDiff, Nat.reduceLT, Nat.reduceLeDiff, Nat.reduceAdd, Nat.reduceMul, Nat.reduceSub, reduceCtorEq, Int.reduceToNat, Int.reduceLT, Int.reduceLE, Int.reduceEq, Int.reduceNe, Int.reduceBEq, Nat.reduceBEq, Int.reduceBNe, Nat.reduceBNe, Int.reduceAdd, Int.reduceSub, Int.reduceMul, Int.reduceNeg])) (AH.le_add (AH.le_refl _) ((by simp only [fresh_add, fresh_set, ne_eq, hn_b1, not_false_eq_true, and_self] : Fresh _ b1).2)) (by omega)
        
    · obtain rfl : i = L.length := by omega
      simp (dsimp := false) (maxSteps := 4000000) only [h, go_sem, ↓reduceIte, Nat.reduceEqDiff, Nat.reduceLT, Nat.reduceLeDiff, Nat.reduceAdd, Nat.reduceMul, Nat.reduceSub, reduceCtorEq, Int.reduceToNat, Int.reduceLT, Int.reduceLE, Int.reduceEq, Int.reduceNe, Int.reduceBEq, Nat.reduceBEq, Int.reduceBNe, Nat.reduceBNe, Int.reduceAdd, Int.reduceSub, Int.reduceMul, Int.reduceNeg]
      refine out _ _ _ (by simp) ?_
      simp (dsimp := false) (maxSteps := 4000000) only [go_sem, ↓reduceIte, Nat.reduceEqDiff, Nat.reduceLT, Nat.reduceLeDiff, Nat.reduceAdd, Nat.reduceMul, Nat.reduceSub, reduceCtorEq, Int.reduceToNat, Int.reduceLT, Int.reduceLE, Int.reduceEq, Int.reduceNe, Int.reduceBEq, Nat.reduceBEq, Int.reduceBNe, Nat.reduceBNe, Int.reduceAdd, Int.reduceSub, Int.reduceMul, Int.reduceNeg]
      exact ⟨H, (AH.le_refl _), (by first | exact ⟨rfl, rfl⟩ | rfl)⟩
theorem RefLeast_c (L : List Slv) (base : Option Addr) (cap : Nat) (H : AH) (hs : SlcIn H 2 base cap (L.map enc)) :
    ACalls Try.prog 69 #[.slice base L.length cap] H (fun v H' => v = .tuple #[.int .u64 (leastP L L.length), .int .i64 (leastI L L.length)] ∧ H = H') := by
  have hle := hs.le
  have hbig := hs.big
  simp only [List.length_map] at hle hbig
  refine ACalls.enter2 Try.func69 rfl Try.ntmps69 Try.results69 (by simp) ?_; simp (dsimp := false) (maxSteps := 4000000) only [go_sem, ↓reduceIte, Nat.reduceEqDiff, Nat.reduceLT, Nat.reduceLeDiff, Nat.reduceAdd, Nat.reduceMul, Nat.reduceSub, reduceCtorEq, Int.reduceToNat, Int.reduceLT, Int.reduceLE, Int.reduceEq, Int.reduceNe, Int.reduceBEq, Nat.reduceBEq, Int.reduceBNe, Nat.reduceBNe, Int.reduceAdd, Int.reduceSub, Int.reduceMul, Int.reduceNeg]
  refine AWp.loopo (ι := Nat) (fun i => i ≤ L.length) (fun i => [(5, .int .i64 i), (4, .int .i64 (leastI L i)), (0, .slice base L.length cap)])
    (fun _ => H) (fun i => L.length - i) 0 (by omega) (FrLe.of_lks ?_) (AH.le_refl _) fun i hi Q again out => ?_
  · simp (dsimp := false) (maxSteps := 4000000) only [go_sem, ↓reduceIte, Nat.reduceEqDiff, Nat.reduceLT, Nat.reduceLeDiff, Nat.reduceAdd, Nat.reduceMul, Nat.reduceSub, reduceCtorEq, Int.reduceToNat, Int.reduceLT, Int.reduceLE, Int.reduceEq, Int.reduceNe, Int.reduceBEq, Nat.reduceBEq, Int.reduceBNe, Nat.reduceBNe, Int.reduceAdd, Int.reduceSub, Int.reduceMul, Int.reduceNeg]
    rfl
  · by_cases h : (i : Int) < L.length
    · obtain ⟨s, hx⟩ := get_some (l := L) (i := i) (by omega)
      obtain ⟨b, o, rfl, hrow, hrd⟩ := hs.get (map_get (f := enc) hx)
      have r0 := hrd 0 _ rfl
      have r1 := hrd 1 _ rfl
      rw [Nat.add_zero] at r0
      have e1 := i64_succ (i := i) (by omega)
      simp (dsimp := false) (maxSteps := 4000000) only [h, go_sem, ↓reduceIte, Nat.reduceEqDiff, Nat.reduceLT, Nat.reduceLeDiff, Nat.reduceAdd, Nat.reduceMul, Nat.reduceSub, reduceCtorEq, Int.reduceToNat, Int.reduceLT, Int.reduceLE, Int.reduceEq, Int.reduceNe, Int.reduceBEq, Nat.reduceBEq, Int.reduceBNe, Nat.reduceBNe, Int.reduceAdd, Int.reduceSub, Int.reduceMul, Int.reduceNeg]
      refine AWp.quiet mixed (by kernel_rfl) ?_
      cases hat : atN L i with
      | none =>
        have hp : leastI L i = -1 := by simp only [leastI, hat]
        have hnx := atN_first hx hat
        have hm : (-1 : Int) < 0 := by omega
        by_cases hn : s.name = 0
        · rw [if_pos hn] at hnx
          have hp2 : leastI L (i + 1) = i := by simp only [leastI, hnx]
          simp (dsimp := false) (maxSteps := 4000000) only [h, r0, r1, hp, hm, hn, e1, go_sem, ↓reduceIte, Nat.reduceEqDiff, Nat.reduceLT, Nat.reduceLeDiff, Nat.reduceAdd, Nat.reduceMul, Nat.reduceSub, reduceCtorEq, Int.reduceToNat, Int.reduceLT, Int.reduceLE, Int.reduceEq, Int.reduceNe, Int.reduceBEq, Nat.reduceBEq, Int.reduceBNe, Nat.reduceBNe, Int.reduceAdd, Int.reduceSub, Int.reduceMul, Int.reduceNeg]
          exact again (i + 1) _ _ (by omega) (FrLe.of_lks (by rw [hp2]; simp (dsimp := false) (maxSteps := 4000000) only [hp, go_sem, ↓reduceIte, Nat.reduceEqDiff, Nat.reduceLT, Nat.reduceLeDiff, Nat.reduceAdd, Nat.reduceMul, Nat.reduceSub, reduceCtorEq, Int.reduceToNat, Int.reduceLT, Int.reduceLE, Int.reduceEq, Int.reduceNe, Int.reduceBEq, Nat.reduceBEq, Int.reduceBNe, Nat.reduceBNe, Int.reduceAdd, Int.reduceSub, Int.reduceMul, Int.reduceNeg])) (AH.le_refl _) (by omega)
        · rw [if_neg hn] at hnx
          have hp2 : leastI L (i + 1) = -1 := by simp only [leastI, hnx]
          simp (dsimp := false) (maxSteps := 4000000) only [h, r0, r1, hp, hm, hn, e1, go_sem, ↓reduceIte, Nat.reduceEqDiff, Nat.reduceLT, Nat.reduceLeDiff, Nat.reduceAdd, Nat.reduceMul, Nat.reduceSub, reduceCtorEq, Int.reduceToNat, Int.reduceLT, Int.reduceLE, Int.reduceEq, Int.reduceNe, Int.reduceBEq, Nat.reduceBEq, Int.reduceBNe, Nat.reduceBNe, Int.reduceAdd, Int.reduceSub, Int.reduceMul, Int.reduceNeg]
          exact again (i + 1) _ _ (by omega) (FrLe.of_lks (by rw [hp2]; simp (dsimp := false) (maxSteps := 4000000) only [hp, go_sem, ↓reduceIte, Nat.reduceEqDiff, Nat.reduceLT, Nat.reduceLeDiff, Nat.reduceAdd, Nat.reduceMul, Nat.reduceSub, reduceCtorEq, Int.reduceToNat, Int.reduceLT, Int.reduceLE, Int.reduceEq, Int.reduceNe, Int.reduceBEq, Nat.reduceBEq, Int.reduceBNe, Nat.reduceBNe, Int.reduceAdd, Int.reduceSub, Int.reduceMul, Int.reduceNeg])) (AH.le_refl _) (by omega)
      | some k =>
        have hk := atN_lt hat
        obtain ⟨t, hkt⟩ := get_some (l := L) (i := k) (by omega)
        obtain ⟨b', o', hb', hrow', hrd'⟩ := hs.get (map_get (f := enc) hkt)
        cases hb'
        have q0 := hrd' 0 _ rfl
        rw [Nat.add_zero] at q0
        have hp : leastI L i = k := by simp only [leastI, hat]
        have hnx := atN_next hx hkt hat
        have hm : ¬ (k : Int) < 0 := by omega
        have hkl : (k : Int) < L.length := by omega
        by_cases hn : s.name = 0
        · by_cases hlt : s.phys < t.phys
          · rw [if_pos ⟨hn, hlt⟩] at hnx
            have hp2 : leastI L (i + 1) = i := by simp only [leastI, hnx]
            simp (dsimp := false) (maxSteps := 4000000) only [h, r0, r1, q0, hp, hm, hkl, hn, hlt, e1, go_sem, ↓reduceIte, Nat.reduceEqDiff, Nat.reduceLT, Nat.reduceLeDiff, Nat.reduceAdd, Nat.reduceMul, Nat.reduceSub, reduceCtorEq, Int.reduceToNat, Int.reduceLT, Int.reduceLE, Int.reduceEq, Int.reduceNe, Int.reduceBEq, Nat.reduceBEq, Int.reduceBNe, Nat.reduceBNe, Int.reduceAdd, Int.reduceSub, Int.reduceMul, Int.reduceNeg]
            exact again (i + 1) _ _ (by omega) (FrLe.of_lks (by rw [hp2]; simp (dsimp := false) (maxSteps := 4000000) only [hp, go_sem, ↓reduceIte, Nat.reduceEqDiff, Nat.reduceLT, Nat.reduceLeDiff, Nat.reduceAdd, Nat.reduceMul, Nat.reduceSub, reduceCtorEq, Int.reduceToNat, Int.reduceLT, Int.reduceLE, Int.reduceEq, Int.reduceNe, Int.reduceBEq, Nat.reduceBEq, Int.reduceBNe, Nat.reduceBNe, Int.reduceAdd, Int.reduceSub, Int.reduceMul, Int.reduceNeg])) (AH.le_refl _) (by omega)
          · rw [if_neg (fun h => hlt h.2)] at hnx
            have hp2 : leastI L (i + 1) = k := by simp only [leastI, hnx]
            simp (dsimp := false) (maxSteps := 4000000) only [h, r0, r1, q0, hp, hm, hkl, hn, hlt, e1, go_sem, ↓reduceIte, Nat.reduceEqDiff, Nat.reduceLT, Nat.reduceLeDiff, Nat.reduceAdd, Nat.reduceMul, Nat.reduceSub, reduceCtorEq, Int.reduceToNat, Int.reduceLT, Int.reduceLE, Int.reduceEq, Int.reduceNe, Int.reduceBEq, Nat.reduceBEq, Int.reduceBNe, Nat.reduceBNe, Int.reduceAdd, Int.reduceSub, Int.reduceMul, Int.reduceNeg]
            exact again (i + 1) _ _ (by omega) (FrLe.of_lks (by rw [hp2]; simp (dsimp := false) (maxSteps := 4000000) only [hp, go_sem, ↓reduceIte, Nat.reduceEqDiff, Nat.reduceLT, Nat.reduceLeDiff, Nat.reduceAdd, Nat.reduceMul, Nat.reduceSub, reduceCtorEq, Int.reduceToNat, Int.reduceLT, Int.reduceLE, Int.reduceEq, Int.reduceNe, Int.reduceBEq, Nat.reduceBEq, Int.reduceBNe, Nat.reduceBNe, Int.reduceAdd, Int.reduceSub, Int.reduceMul, Int.reduceNeg])) (AH.le_refl _) (by omega)
        · rw [if_neg (fun h => hn h.1)] at hnx
          have hp2 : leastI L (i + 1) = k := by simp only [leastI, hnx]
          simp (dsimp := false) (maxSteps := 4000000) only [h, r0, r1, hp, hm, hn, e1, go_sem, ↓reduceIte, Nat.reduceEqDiff, Nat.reduceLT, Nat.reduceLeDiff, Nat.reduceAdd, Nat.reduceMul, Nat.reduceSub, reduceCtorEq, Int.reduceToNat, Int.reduceLT, Int.reduceLE, Int.reduceEq, Int.reduceNe, Int.reduceBEq, Nat.reduceBEq, Int.reduceBNe, Nat.reduceBNe, Int.reduceAdd, Int.reduceSub, Int.reduceMul, Int.reduceNeg]
          exact again (i + 1) _ _ (by omega) (FrLe.of_lks (by rw [hp2]; simp (dsimp := false) (maxSteps := 4000000) only [hp, go_sem, ↓reduceIte, Nat.reduceEqDiff, Nat.reduceLT, Nat.reduceLeDiff, Nat.reduceAdd, Nat.reduceMul, Nat.reduceSub, reduceCtorEq, Int.reduceToNat, Int.reduceLT, Int.reduceLE, Int.reduceEq, Int.reduceNe, Int.reduceBEq, Nat.reduceBEq, Int.reduceBNe, Nat.reduceBNe, Int.reduceAdd, Int.reduceSub, Int.reduceMul, Int.reduceNeg])) (AH.le_refl _) (by omega)
    · obtain rfl : i = L.length := by omega
      simp (dsimp := false) (maxSteps := 4000000) only [h, go_sem, ↓reduceIte, Nat.reduceEqDiff, Nat.reduceLT, Nat.reduceLeDiff, Nat.reduceAdd, Nat.reduceMul, Nat.reduceSub, reduceCtorEq, Int.reduceToNat, Int.reduceLT, Int.reduceLE, Int.reduceEq, Int.reduceNe, Int.reduceBEq, Nat.reduceBEq, Int.reduceBNe, Nat.reduceBNe, Int.reduceAdd, Int.reduceSub, Int.reduceMul, Int.reduceNeg]
      refine out _ _ _ (by simp) ?_
      cases hat : atN L L.length with
      | none =>
        have hp : leastI L L.length = -1 := by simp only [leastI, hat]
        have hp0 : leastP L L.length = 0 := by simp only [leastP, hat]
        have hm : (-1 : Int) < 0 := by omega
        rw [hp, hp0]
        simp (dsimp := false) (maxSteps := 4000000) only [hm, go_sem, ↓reduceIte, Nat.reduceEqDiff, Nat.reduceLT, Nat.reduceLeDiff, Nat.reduceAdd, Nat.reduceMul, Nat.reduceSub, reduceCtorEq, Int.reduceToNat, Int.reduceLT, Int.reduceLE, Int.reduceEq, Int.reduceNe, Int.reduceBEq, Nat.reduceBEq, Int.reduceBNe, Nat.reduceBNe, Int.reduceAdd, Int.reduceSub, Int.reduceMul, Int.reduceNeg]
        exact ⟨H, (AH.le_refl _), (by first | exact ⟨rfl, rfl⟩ | rfl)⟩
      | some k =>
        have hk := atN_lt hat
        obtain ⟨t, hkt⟩ := get_some (l := L) (i := k) (by omega)
        obtain ⟨b', o', rfl, hrow', hrd'⟩ := hs.get (map_get (f := enc) hkt)
        have q0 := hrd' 0 _ rfl
        rw [Nat.add_zero] at q0
        have hp : leastI L L.length = k := by simp only [leastI, hat]
        have hp0 : leastP L L.length = t.phys := by simp only [leastP, hat, getD_of hkt]
        have hm : ¬ (k : Int) < 0 := by omega
        have hkl : (k : Int) < L.length := by omega
        rw [hp, hp0]
        simp (dsimp := false) (maxSteps := 4000000) only [hm, hkl, q0, go_sem, ↓reduceIte, Nat.reduceEqDiff, Nat.reduceLT, Nat.reduceLeDiff, Nat.reduceAdd, Nat.reduceMul, Nat.reduceSub, reduceCtorEq, Int.reduceToNat, Int.reduceLT, Int.reduceLE, Int.reduceEq, Int.reduceNe, Int.reduceBEq, Nat.reduceBEq, Int.reduceBNe, Nat.reduceBNe, Int.reduceAdd, Int.reduceSub, Int.reduceMul, Int.reduceNeg]
        exact ⟨H, (AH.le_refl _), (by first | exact ⟨rfl, rfl⟩ | rfl)⟩

/-! ### The first free name -/
def freeF (L : List Slv) (m : Int) : Nat → Int → Option Int
  | 0, _ => none
  | f + 1, n => if n ≤ m then (if (L.any fun s => s.name == n) = true then freeF L m f (n + 1) else some n) else none
def lim (most : Int) : Int := if 254 < most then 254 else most
def freev (L : List Slv) (most : Int) : Option Int := freeF L (lim most) 255 1
def freeV : Option Int → Value
  | some n => .tuple #[.int .i64 n, .bool true]
  | none => .tuple #[.int .i64 0, .bool false]
theorem lim_le (most : Int) : lim most ≤ 254 ∧ lim most ≤ most := by unfold lim; split <;> omega
theorem le_lim {n most : Int} : n ≤ lim most ↔ n ≤ most ∧ n ≤ 254 := by unfold lim; split <;> omega
theorem RefFree_c (L : List Slv) (most : Int) (base : Option Addr) (cap : Nat) (H : AH) (hs : SlcIn H 2 base cap (L.map enc)) :
    ACalls Try.prog 70 #[.slice base L.length cap, .int .i64 most] H (fun v H' => v = freeV (freev L most) ∧ H = H') := by
  generalize hR : freev L most = R
  refine ACalls.enter2 Try.func70 rfl Try.ntmps70 Try.results70 (by simp) ?_; simp (dsimp := false) (maxSteps := 4000000) only [go_sem, ↓reduceIte, Nat.reduceEqDiff, Nat.reduceLT, Nat.reduceLeDiff, Nat.reduceAdd, Nat.reduceMul, Nat.reduceSub, reduceCtorEq, Int.reduceToNat, Int.reduceLT, Int.reduceLE, Int.reduceEq, Int.reduceNe, Int.reduceBEq, Nat.reduceBEq, Int.reduceBNe, Nat.reduceBNe, Int.reduceAdd, Int.reduceSub, Int.reduceMul, Int.reduceNeg]
  refine AWp.loopo (ι := Int × Nat) (fun p => 1 ≤ p.1 ∧ p.1 + p.2 = 256 ∧ freeF L (lim most) p.2 p.1 = R) (fun p => [(6, .int .i64 p.1), (0, .slice base L.length cap), (1, .int .i64 most)])
    (fun _ => H) (fun p => p.2) (1, 255) ⟨by simp, by simp, hR⟩ (FrLe.of_lks ?_) (AH.le_refl _) fun p hi Q again out => ?_
  · simp (dsimp := false) (maxSteps := 4000000) only [go_sem, ↓reduceIte, Nat.reduceEqDiff, Nat.reduceLT, Nat.reduceLeDiff, Nat.reduceAdd, Nat.reduceMul, Nat.reduceSub, reduceCtorEq, Int.reduceToNat, Int.reduceLT, Int.reduceLE, Int.reduceEq, Int.reduceNe, Int.reduceBEq, Nat.reduceBEq, Int.reduceBNe, Nat.reduceBNe, Int.reduceAdd, Int.reduceSub, Int.reduceMul, Int.reduceNeg]
  · obtain ⟨n, f⟩ := p
    obtain ⟨h1, h2, h3⟩ := hi
    simp only at h1 h2 h3 ⊢
    have e1 : IntKind.i64.wrap (n + 1) = n + 1 := i64_eq (by omega) (by omega)
    by_cases hm : n ≤ most ∧ n ≤ 254
    · obtain ⟨f', rfl⟩ : ∃ f', f = f' + 1 := ⟨f - 1, by omega⟩
      rw [freeF, if_pos (le_lim.2 hm)] at h3
      simp (dsimp := false) (maxSteps := 4000000) only [hm.1, hm.2, go_sem, ↓reduceIte, Nat.reduceEqDiff, Nat.reduceLT, Nat.reduceLeDiff, Nat.reduceAdd, Nat.reduceMul, Nat.reduceSub, reduceCtorEq, Int.reduceToNat, Int.reduceLT, Int.reduceLE, Int.reduceEq, Int.reduceNe, Int.reduceBEq, Nat.reduceBEq, Int.reduceBNe, Nat.reduceBNe, Int.reduceAdd, Int.reduceSub, Int.reduceMul, Int.reduceNeg]
      refine (has_c L n base cap _ hs).mono ?_; rintro _ _ ⟨rfl, rfl⟩
      cases hh : L.any fun s => s.name == n with
      | true =>
        rw [hh, if_pos rfl] at h3
        simp (dsimp := false) (maxSteps := 4000000) only [e1, go_sem, ↓reduceIte, Nat.reduceEqDiff, Nat.reduceLT, Nat.reduceLeDiff, Nat.reduceAdd, Nat.reduceMul, Nat.reduceSub, reduceCtorEq, Int.reduceToNat, Int.reduceLT, Int.reduceLE, Int.reduceEq, Int.reduceNe, Int.reduceBEq, Nat.reduceBEq, Int.reduceBNe, Nat.reduceBNe, Int.reduceAdd, Int.reduceSub, Int.reduceMul, Int.reduceNeg]
        exact again (n + 1, f') _ _ ⟨by simp only; omega, by simp only; omega, h3⟩ (FrLe.of_lks (by simp (dsimp := false) (maxSteps := 4000000) only [go_sem, ↓reduceIte, Nat.reduceEqDiff, Nat.reduceLT, Nat.reduceLeDiff, Nat.reduceAdd, Nat.reduceMul, Nat.reduceSub, reduceCtorEq, Int.reduceToNat, Int.reduceLT, Int.reduceLE, Int.reduceEq, Int.reduceNe, Int.reduceBEq, Nat.reduceBEq, Int.reduceBNe, Nat.reduceBNe, Int.reduceAdd, Int.reduceSub, Int.reduceMul, Int.reduceNeg])) (AH.le_refl _) (by simp only; omega)
      | false =>
        rw [hh, if_neg (by simp)] at h3
        simp (dsimp := false) (maxSteps := 4000000) only [go_sem, ↓reduceIte, Nat.reduceEqDiff, Nat.reduceLT, Nat.reduceLeDiff, Nat.reduceAdd, Nat.reduceMul, Nat.reduceSub, reduceCtorEq, Int.reduceToNat, Int.reduceLT, Int.reduceLE, Int.reduceEq, Int.reduceNe, Int.reduceBEq, Nat.reduceBEq, Int.reduceBNe, Nat.reduceBNe, Int.reduceAdd, Int.reduceSub, Int.reduceMul, Int.reduceNeg]
        refine out _ _ _ (by simp) ?_
        simp (dsimp := false) (maxSteps := 4000000) only [go_sem, ↓reduceIte, Nat.reduceEqDiff, Nat.reduceLT, Nat.reduceLeDiff, Nat.reduceAdd, Nat.reduceMul, Nat.reduceSub, reduceCtorEq, Int.reduceToNat, Int.reduceLT, Int.reduceLE, Int.reduceEq, Int.reduceNe, Int.reduceBEq, Nat.reduceBEq, Int.reduceBNe, Nat.reduceBNe, Int.reduceAdd, Int.reduceSub, Int.reduceMul, Int.reduceNeg]
        exact ⟨H, (AH.le_refl _), (by first | exact ⟨by rw [← h3]; rfl, rfl⟩ | rfl)⟩
    · have h3' : R = none := by
        rw [← h3]; cases f with
        | zero => rfl
        | succ f => rw [freeF, if_neg (fun h => hm (le_lim.1 h))]
      by_cases hm1 : n ≤ most
      · have hm2 : ¬ n ≤ 254 := fun h => hm ⟨hm1, h⟩
        simp (dsimp := false) (maxSteps := 4000000) only [hm1, hm2, go_sem, ↓reduceIte, Nat.reduceEqDiff, Nat.reduceLT, Nat.reduceLeDiff, Nat.reduceAdd, Nat.reduceMul, Nat.reduceSub, reduceCtorEq, Int.reduceToNat, Int.reduceLT, Int.reduceLE, Int.reduceEq, Int.reduceNe, Int.reduceBEq, Nat.reduceBEq, Int.reduceBNe, Nat.reduceBNe, Int.reduceAdd, Int.reduceSub, Int.reduceMul, Int.reduceNeg]
        refine out _ _ _ (by simp) ?_
        simp (dsimp := false) (maxSteps := 4000000) only [go_sem, ↓reduceIte, Nat.reduceEqDiff, Nat.reduceLT, Nat.reduceLeDiff, Nat.reduceAdd, Nat.reduceMul, Nat.reduceSub, reduceCtorEq, Int.reduceToNat, Int.reduceLT, Int.reduceLE, Int.reduceEq, Int.reduceNe, Int.reduceBEq, Nat.reduceBEq, Int.reduceBNe, Nat.reduceBNe, Int.reduceAdd, Int.reduceSub, Int.reduceMul, Int.reduceNeg]
        exact ⟨H, (AH.le_refl _), (by first | exact ⟨by rw [h3']; rfl, rfl⟩ | rfl)⟩
      · simp (dsimp := false) (maxSteps := 4000000) only [hm1, go_sem, ↓reduceIte, Nat.reduceEqDiff, Nat.reduceLT, Nat.reduceLeDiff, Nat.reduceAdd, Nat.reduceMul, Nat.reduceSub, reduceCtorEq, Int.reduceToNat, Int.reduceLT, Int.reduceLE, Int.reduceEq, Int.reduceNe, Int.reduceBEq, Nat.reduceBEq, Int.reduceBNe, Nat.reduceBNe, Int.reduceAdd, Int.reduceSub, Int.reduceMul, Int.reduceNeg]
        refine out _ _ _ (by simp) ?_
        simp (dsimp := false) (maxSteps := 4000000) only [go_sem, ↓reduceIte, Nat.reduceEqDiff, Nat.reduceLT, Nat.reduceLeDiff, Nat.reduceAdd, Nat.reduceMul, Nat.reduceSub, reduceCtorEq, Int.reduceToNat, Int.reduceLT, Int.reduceLE, Int.reduceEq, Int.reduceNe, Int.reduceBEq, Nat.reduceBEq, Int.reduceBNe, Nat.reduceBNe, Int.reduceAdd, Int.reduceSub, Int.reduceMul, Int.reduceNeg]
        exact ⟨H, (AH.le_refl _), (by first | exact ⟨by rw [h3']; rfl, rfl⟩ | rfl)⟩
theorem isName_c (s : Slv) (n : Int) (b : Nat) (H : AH) (hb : H.rd ⟨b, 0, none⟩ = some (.int .i64 n)) : ACalls Try.prog 97 (.agg (enc s).toArray :: [.pointer (some ⟨b, 0, none⟩)]).toArray H (fun v H' => v = .bool (s.name == n) ∧ H = H') := by
  refine ACalls.enter2 Try.func97 rfl Try.ntmps97 Try.results97 (by simp) ?_; simp (dsimp := false) (maxSteps := 4000000) only [enc_len, go_sem, ↓reduceIte, Nat.reduceEqDiff, Nat.reduceLT, Nat.reduceLeDiff, Nat.reduceAdd, Nat.reduceMul, Nat.reduceSub, reduceCtorEq, Int.reduceToNat, Int.reduceLT, Int.reduceLE, Int.reduceEq, Int.reduceNe, Int.reduceBEq, Nat.reduceBEq, Int.reduceBNe, Nat.reduceBNe, Int.reduceAdd, Int.reduceSub, Int.reduceMul, Int.reduceNeg]
  refine AllB.mk fun b2 h_b2 => ?_; have hn_b2 := h_b2; (try simp only [fresh_add, fresh_set, ne_eq] at hn_b2); have hr_b2 := hn_b2; (try simp only [@eq_comm Nat b2] at hr_b2); simp (dsimp := false) (maxSteps := 4000000) only [enc_len, hn_b2, hr_b2, go_sem, ↓reduceIte, Nat.reduceEqDiff, Nat.reduceLT, Nat.reduceLeDiff, Nat.reduceAdd, Nat.reduceMul, Nat.reduceSub, reduceCtorEq, Int.reduceToNat, Int.reduceLT, Int.reduceLE, Int.reduceEq, Int.reduceNe, Int.reduceBEq, Nat.reduceBEq, Int.reduceBNe, Nat.reduceBNe, Int.reduceAdd, Int.reduceSub, Int.reduceMul, Int.reduceNeg]
  have hb2 := rd_mono (k := .cells (enc s) 66 2) h_b2 hb
  simp (dsimp := false) (maxSteps := 4000000) only [enc1, hb2, enc_len, hn_b2, hr_b2, go_sem, ↓reduceIte, Nat.reduceEqDiff, Nat.reduceLT, Nat.reduceLeDiff, Nat.reduceAdd, Nat.reduceMul, Nat.reduceSub, reduceCtorEq, Int.reduceToNat, Int.reduceLT, Int.reduceLE, Int.reduceEq, Int.reduceNe, Int.reduceBEq, Nat.reduceBEq, Int.reduceBNe, Nat.reduceBNe, Int.reduceAdd, Int.reduceSub, Int.reduceMul, Int.reduceNeg]
  exact ⟨H, (AH.le_add (AH.le_refl _) ((by simp only [fresh_add, fresh_set, ne_eq, hn_b2, not_false_eq_true, and_self] : Fresh _ b2).2)), (by first | exact ⟨rfl, rfl⟩ | rfl)⟩
theorem Free_c (L : List Slv) (most : Int) (base : Option Addr) (cap : Nat) (H : AH) (hs : SlcIn H 2 base cap (L.map enc)) :
    ACalls Try.prog 65 #[.slice base L.length cap, .int .i64 most] H (fun v H' => v = freeV (freev L most) ∧ H = H') := by
  generalize hR : freev L most = R
  refine ACalls.enter2 Try.func65 rfl Try.ntmps65 Try.results65 (by simp) ?_; simp (dsimp := false) (maxSteps := 4000000) only [go_sem, ↓reduceIte, Nat.reduceEqDiff, Nat.reduceLT, Nat.reduceLeDiff, Nat.reduceAdd, Nat.reduceMul, Nat.reduceSub, reduceCtorEq, Int.reduceToNat, Int.reduceLT, Int.reduceLE, Int.reduceEq, Int.reduceNe, Int.reduceBEq, Nat.reduceBEq, Int.reduceBNe, Nat.reduceBNe, Int.reduceAdd, Int.reduceSub, Int.reduceMul, Int.reduceNeg]
  refine AllB.mk fun b1 h_b1 => ?_; have hn_b1 := h_b1; (try simp only [fresh_add, fresh_set, ne_eq] at hn_b1); have hr_b1 := hn_b1; (try simp only [@eq_comm Nat b1] at hr_b1); simp (dsimp := false) (maxSteps := 4000000) only [hn_b1, hr_b1, go_sem, ↓reduceIte, Nat.reduceEqDiff, Nat.reduceLT, Nat.reduceLeDiff, Nat.reduceAdd, Nat.reduceMul, Nat.reduceSub, reduceCtorEq, Int.reduceToNat, Int.reduceLT, Int.reduceLE, Int.reduceEq, Int.reduceNe, Int.reduceBEq, Nat.reduceBEq, Int.reduceBNe, Nat.reduceBNe, Int.reduceAdd, Int.reduceSub, Int.reduceMul, Int.reduceNeg]
  have hl1 : (if (254 : Int) < most then 254 else most) = lim most := rfl
  refine AWp.loopo (ι := Int × Nat × Nat) (fun p => 1 ≤ p.1 ∧ p.1 + p.2.1 = 256 ∧ freeF L (lim most) p.2.1 p.1 = R ∧ Fresh H p.2.2) (fun p => [(6, .pointer (some ⟨p.2.2, 0, none⟩)), (0, .slice base L.length cap), (1, .int .i64 most)])
    (fun p => H.add p.2.2 (.cells [.int .i64 p.1] 3 1)) (fun p => p.2.1) (1, 255, b1) ⟨by simp, by simp, hR, h_b1⟩ (FrLe.of_lks ?_) (AH.le_refl _) fun p hi Q again out => ?_
  · simp (dsimp := false) (maxSteps := 4000000) only [hn_b1, hr_b1, go_sem, ↓reduceIte, Nat.reduceEqDiff, Nat.reduceLT, Nat.reduceLeDiff, Nat.reduceAdd, Nat.reduceMul, Nat.reduceSub, reduceCtorEq, Int.reduceToNat, Int.reduceLT, Int.reduceLE, Int.reduceEq, Int.reduceNe, Int.reduceBEq, Nat.reduceBEq, Int.reduceBNe, Nat.reduceBNe, Int.reduceAdd, Int.reduceSub, Int.reduceMul, Int.reduceNeg]
  · obtain ⟨n, f, bn⟩ := p
    obtain ⟨h1, h2, h3, hf⟩ := hi
    simp only at h1 h2 h3 hf ⊢
    have e1 : IntKind.i64.wrap (n + 1) = n + 1 := i64_eq (by omega) (by omega)
    by_cases hm : n ≤ lim most
    · have hlm := lim_le most
      obtain ⟨f', rfl⟩ : ∃ f', f = f' + 1 := ⟨f - 1, by omega⟩
      rw [freeF, if_pos hm] at h3
      simp (dsimp := false) (maxSteps := 4000000) only [hl1, hm, hn_b1, hr_b1, go_sem, ↓reduceIte, Nat.reduceEqDiff, Nat.reduceLT, Nat.reduceLeDiff, Nat.reduceAdd, Nat.reduceMul, Nat.reduceSub, reduceCtorEq, Int.reduceToNat, Int.reduceLT, Int.reduceLE, Int.reduceEq, Int.reduceNe, Int.reduceBEq, Nat.reduceBEq, Int.reduceBNe, Nat.reduceBNe, Int.reduceAdd, Int.reduceSub, Int.reduceMul, Int.reduceNeg]
      refine (ContainsFunc_c 97 [.pointer (some ⟨bn, 0, none⟩)] ok_97 (fun s => s.name == n) L base cap _ (hs.add hf) (fun s _ => isName_c s n bn _ (rd_add_self _ _ _ _ _ _))).mono ?_
      rintro _ _ ⟨rfl, rfl⟩
      cases hh : L.any fun s => s.name == n with
      | true =>
        rw [hh, if_pos rfl] at h3
        
        simp (dsimp := false) (maxSteps := 4000000) only [hn_b1, hr_b1, go_sem, ↓reduceIte, Nat.reduceEqDiff, Nat.reduceLT, Nat.reduceLeDiff, Nat.reduceAdd, Nat.reduceMul, Nat.reduceSub, reduceCtorEq, Int.reduceToNat, Int.reduceLT, Int.reduceLE, Int.reduceEq, Int.reduceNe, Int.reduceBEq, Nat.reduceBEq, Int.reduceBNe, Nat.reduceBNe, Int.reduceAdd, Int.reduceSub, Int.reduceMul, Int.reduceNeg]
        refine AllB.mk fun b3 h_b3 => ?_; have hn_b3 := h_b3; (try simp only [fresh_add, fresh_set, ne_eq] at hn_b3); have hr_b3 := hn_b3; (try simp only [@eq_comm Nat b3] at hr_b3); simp (dsimp := false) (maxSteps := 4000000) only [hn_b1, hr_b1, hn_b3, hr_b3, go_sem, ↓reduceIte, Nat.reduceEqDiff, Nat.reduceLT, Nat.reduceLeDiff, Nat.reduceAdd, Nat.reduceMul, Nat.reduceSub, reduceCtorEq, Int.reduceToNat, Int.reduceLT, Int.reduceLE, Int.reduceEq, Int.reduceNe, Int.reduceBEq, Nat.reduceBEq, Int.reduceBNe, Nat.reduceBNe, Int.reduceAdd, Int.reduceSub, Int.reduceMul, Int.reduceNeg]
        simp (dsimp := false) (maxSteps := 4000000) only [e1, hn_b1, hr_b1, hn_b3, hr_b3, go_sem, ↓reduceIte, Nat.reduceEqDiff, Nat.reduceLT, Nat.reduceLeDiff, Nat.reduceAdd, Nat.reduceMul, Nat.reduceSub, reduceCtorEq, Int.reduceToNat, Int.reduceLT, Int.reduceLE, Int.reduceEq, Int.reduceNe, Int.reduceBEq, Nat.reduceBEq, Int.reduceBNe, Nat.reduceBNe, Int.reduceAdd, Int.reduceSub, Int.reduceMul, Int.reduceNeg]
        exact again (n + 1, f', b3) _ _ ⟨by simp only; omega, by simp only; omega, h3, hn_b3.2⟩ (FrLe.of_lks (by simp (dsimp := false) (maxSteps := 4000000) only [hn_b1, hr_b1, hn_b3, hr_b3, go_sem, ↓reduceIte, Nat.reduceEqDiff, Nat.reduceLT, Nat.reduceLeDiff, Nat.reduceAdd, Nat.reduceMul, Nat.reduceSub, reduceCtorEq, Int.reduceToNat, Int.reduceLT, Int.reduceLE, Int.reduceEq, Int.reduceNe, Int.reduceBEq, Nat.reduceBEq, Int.reduceBNe, Nat.reduceBNe, Int.reduceAdd, Int.reduceSub, Int.reduceMul, Int.reduceNeg])) (AH.le_under (AH.le_add (AH.le_refl _) hf.2)) (by simp only; omega)
        
      | false =>
        rw [hh, if_neg (by simp)] at h3
        simp (dsimp := false) (maxSteps := 4000000) only [hn_b1, hr_b1, go_sem, ↓reduceIte, Nat.reduceEqDiff, Nat.reduceLT, Nat.reduceLeDiff, Nat.reduceAdd, Nat.reduceMul, Nat.reduceSub, reduceCtorEq, Int.reduceToNat, Int.reduceLT, Int.reduceLE, Int.reduceEq, Int.reduceNe, Int.reduceBEq, Nat.reduceBEq, Int.reduceBNe, Nat.reduceBNe, Int.reduceAdd, Int.reduceSub, Int.reduceMul, Int.reduceNeg]
        refine out _ _ _ (by simp) ?_
        simp (dsimp := false) (maxSteps := 4000000) only [hn_b1, hr_b1, go_sem, ↓reduceIte, Nat.reduceEqDiff, Nat.reduceLT, Nat.reduceLeDiff, Nat.reduceAdd, Nat.reduceMul, Nat.reduceSub, reduceCtorEq, Int.reduceToNat, Int.reduceLT, Int.reduceLE, Int.reduceEq, Int.reduceNe, Int.reduceBEq, Nat.reduceBEq, Int.reduceBNe, Nat.reduceBNe, Int.reduceAdd, Int.reduceSub, Int.reduceMul, Int.reduceNeg]
        exact ⟨H, AH.le_add (AH.le_refl _) hf.2, by rw [← h3]; exact ⟨rfl, rfl⟩⟩
    · have h3' : R = none := by
        rw [← h3]; cases f with
        | zero => rfl
        | succ f => rw [freeF, if_neg hm]
      simp (dsimp := false) (maxSteps := 4000000) only [hl1, hm, hn_b1, hr_b1, go_sem, ↓reduceIte, Nat.reduceEqDiff, Nat.reduceLT, Nat.reduceLeDiff, Nat.reduceAdd, Nat.reduceMul, Nat.reduceSub, reduceCtorEq, Int.reduceToNat, Int.reduceLT, Int.reduceLE, Int.reduceEq, Int.reduceNe, Int.reduceBEq, Nat.reduceBEq, Int.reduceBNe, Nat.reduceBNe, Int.reduceAdd, Int.reduceSub, Int.reduceMul, Int.reduceNeg]
      refine out _ _ _ (by simp) ?_
      simp (dsimp := false) (maxSteps := 4000000) only [hn_b1, hr_b1, go_sem, ↓reduceIte, Nat.reduceEqDiff, Nat.reduceLT, Nat.reduceLeDiff, Nat.reduceAdd, Nat.reduceMul, Nat.reduceSub, reduceCtorEq, Int.reduceToNat, Int.reduceLT, Int.reduceLE, Int.reduceEq, Int.reduceNe, Int.reduceBEq, Nat.reduceBEq, Int.reduceBNe, Nat.reduceBNe, Int.reduceAdd, Int.reduceSub, Int.reduceMul, Int.reduceNeg]
      exact ⟨H, AH.le_add (AH.le_refl _) hf.2, by rw [h3']; exact ⟨rfl, rfl⟩⟩
theorem rowsS (l : List Slv) : ∀ r ∈ l.map enc, r.length = 2 := by
  intro r hr
  obtain ⟨w, _, rfl⟩ := List.mem_map.1 hr
  rfl
theorem flatS_len (l : List Slv) : ((l.map enc).flatten).length = l.length * 2 := by rw [flat_len (rowsS l), List.length_map]
theorem flatS_scal (l : List Slv) : ((l.map enc).flatten).all scal = true := by
  induction l with
  | nil => rfl
  | cons s l ih => simp only [List.map_cons, List.flatten_cons, List.all_append, enc_scal, ih, Bool.and_self]
abbrev blkS (l : List Slv) (c : Nat) : ABlk := .cells (l.map enc).flatten 66 (c * 2)
theorem ownS {H : AH} {b m cap : Nat} {l : List Slv} (h : l.length ≤ cap) (hb : l.length < 9223372036854775808) : SlcIn (H.add b (.cells (l.map enc).flatten 66 m)) 2 (some ⟨b, 0, none⟩) cap (l.map enc) :=
  SlcIn.own (rowsS l) (by simpa using h) (by simpa using hb)
theorem Clip_c (a : Option Addr) (n cap : Nat) (h : n ≤ cap) (H : AH) : ACalls Try.prog 62 #[.slice a n cap] H (fun v H' => v = .slice a n n ∧ H = H') := by
  have h' : (n : Int) ≤ cap := by omega
  refine ACalls.enter2 Try.func62 rfl Try.ntmps62 Try.results62 (by simp) ?_; simp (dsimp := false) (maxSteps := 4000000) only [h', Int.le_refl, go_sem, ↓reduceIte, Nat.reduceEqDiff, Nat.reduceLT, Nat.reduceLeDiff, Nat.reduceAdd, Nat.reduceMul, Nat.reduceSub, reduceCtorEq, Int.reduceToNat, Int.reduceLT, Int.reduceLE, Int.reduceEq, Int.reduceNe, Int.reduceBEq, Nat.reduceBEq, Int.reduceBNe, Nat.reduceBNe, Int.reduceAdd, Int.reduceSub, Int.reduceMul, Int.reduceNeg]
  exact ⟨H, (AH.le_refl _), (by first | exact ⟨rfl, rfl⟩ | rfl)⟩
def assignF (most : Int) : Nat → List Slv → List Slv × Int
  | 0, L => (L, 0)
  | f + 1, L => match atN L L.length with
    | none => (L, 0)
    | some k => match freev L most with
      | none => (L, 11)
      | some n => assignF most f (L.set k ⟨(L.getD k zs).phys, n⟩)
def cntZ (L : List Slv) : Nat := L.countP fun s => s.name == 0
def uniq (L : List Slv) : Prop := ∀ (i j : Nat) (s t : Slv), L[i]? = some s → L[j]? = some t → s.phys = t.phys → i = j
theorem atN_name {L : List Slv} : ∀ {i k : Nat}, i ≤ L.length → atN L i = some k → ∃ s, L[k]? = some s ∧ s.name = 0
  | 0, _, _, h => by cases h
  | i + 1, k, hi, h => by
    obtain ⟨s, hx⟩ := get_some (l := L) (i := i) (by omega)
    cases hat : atN L i with
    | none =>
      rw [atN_first hx hat] at h
      split at h
      · rename_i hn; cases h; exact ⟨s, hx, hn⟩
      · cases h
    | some k' =>
      obtain ⟨t, ht, htn⟩ := atN_name (by omega) hat
      rw [atN_next hx ht hat] at h
      split at h
      · rename_i hn; cases h; exact ⟨s, hx, hn.1⟩
      · cases h; exact ⟨t, ht, htn⟩
theorem freeF_ge {L : List Slv} {m : Int} : ∀ {f : Nat} {n r : Int}, freeF L m f n = some r → n ≤ r ∧ r ≤ m
  | 0, _, _, h => by cases h
  | f + 1, n, r, h => by
    rw [freeF] at h
    split at h
    · split at h
      · have := freeF_ge h; omega
      · cases h; omega
    · cases h
theorem cntZ_set {L : List Slv} {k : Nat} {s : Slv} {n : Int} (hx : L[k]? = some s) (h0 : s.name = 0) (hn : n ≠ 0) (p : Int) : cntZ (L.set k ⟨p, n⟩) < cntZ L := by
  unfold cntZ
  induction L generalizing k with
  | nil => simp at hx
  | cons x l ih =>
    cases k with
    | zero =>
      simp at hx; subst hx
      simp [h0, hn]
    | succ k =>
      simp only [List.getElem?_cons_succ] at hx
      have := ih hx
      simp only [List.set_cons_succ, List.countP_cons]
      omega
theorem uniq_set {L : List Slv} {k : Nat} {s : Slv} {n : Int} (hu : uniq L) (hx : L[k]? = some s) : uniq (L.set k ⟨s.phys, n⟩) := by
  have key : ∀ (i : Nat) (t : Slv), (L.set k ⟨s.phys, n⟩)[i]? = some t → ∃ t', L[i]? = some t' ∧ t'.phys = t.phys := fun i t h => by
    rw [List.getElem?_set] at h
    split at h
    · rename_i e; subst e
      split at h
      · cases h; exact ⟨s, hx, rfl⟩
      · cases h
    · exact ⟨t, h, rfl⟩
  intro i j a b ha hb hab
  obtain ⟨a', ha', hpa⟩ := key i a ha
  obtain ⟨b', hb', hpb⟩ := key j b hb
  exact hu i j a' b' ha' hb' (by rw [hpa, hpb, hab])

/-! ### Assign -/
/-- What is handed back: a slice of its own, by its rows. -/
def Given (H : AH) (R : List Slv × Int) (v : Value) (H' : AH) : Prop := ∃ base cap, v = .tuple #[.slice base R.1.length cap, .int .i64 R.2] ∧ SlcIn H' 2 base cap (R.1.map enc) ∧ Ext H H'
theorem leastP_some {L : List Slv} {k : Nat} (h : atN L L.length = some k) : leastP L L.length = (L.getD k zs).phys := by simp only [leastP, h]
theorem assign_none {most : Int} {f : Nat} {L : List Slv} (h : atN L L.length = none) : assignF most (f + 1) L = (L, 0) := by simp only [assignF, h]
theorem assign_full {most : Int} {f k : Nat} {L : List Slv} (h : atN L L.length = some k) (h2 : freev L most = none) : assignF most (f + 1) L = (L, 11) := by simp only [assignF, h, h2]
theorem assign_next {most n : Int} {f k : Nat} {L : List Slv} {s : Slv} (h : atN L L.length = some k) (h2 : freev L most = some n) (hx : L[k]? = some s) : assignF most (f + 1) L = assignF most f (L.set k ⟨s.phys, n⟩) := by
  simp only [assignF, h, h2, getD_of hx]
theorem setName {L : List Slv} {k : Nat} {s : Slv} {n : Int} (hx : L[k]? = some s) : ((L.map enc).flatten).set (k * 2 + 1) (.int .i64 n) = ((L.set k ⟨s.phys, n⟩).map enc).flatten := by
  rw [flat_set (rowsS L) k 1 (enc s) _ (by rw [List.getElem?_map, hx]; rfl) (by omega), List.map_set]; rfl
theorem idx_phys {L : List Slv} {k : Nat} {s : Slv} (hu : uniq L) (hx : L[k]? = some s) : idxG (fun t => t.phys == s.phys) L 0 = k := by
  rw [idxG_at L k 0 s (fun j t hj ht => by
    simp only [beq_eq_false_iff_ne, ne_eq]
    intro e
    have := hu j k t s ht hx e
    omega) hx (by simp)]
  omega
theorem Same_c (A B : List Slv) (b1 : Option Addr) (c1 : Nat) (b2 : Option Addr) (c2 : Nat) (H : AH) (hs1 : SlcIn H 2 b1 c1 (A.map enc)) (hs2 : SlcIn H 2 b2 c2 (B.map enc)) (hAB : A = B) :
    ACalls Try.prog 23 #[.slice b1 A.length c1, .slice b2 B.length c2] H (fun v H' => v = .bool true ∧ H = H') := by
  subst hAB
  have hbig := hs1.big
  simp only [List.length_map] at hbig
  refine ACalls.enter2 Try.func23 rfl Try.ntmps23 Try.results23 (by simp) ?_; simp (dsimp := false) (maxSteps := 4000000) only [go_sem, ↓reduceIte, Nat.reduceEqDiff, Nat.reduceLT, Nat.reduceLeDiff, Nat.reduceAdd, Nat.reduceMul, Nat.reduceSub, reduceCtorEq, Int.reduceToNat, Int.reduceLT, Int.reduceLE, Int.reduceEq, Int.reduceNe, Int.reduceBEq, Nat.reduceBEq, Int.reduceBNe, Nat.reduceBNe, Int.reduceAdd, Int.reduceSub, Int.reduceMul, Int.reduceNeg]
  refine AWp.loopo (ι := Nat) (fun i => i ≤ A.length) (fun i => [(5, .int .i64 i), (0, .slice b1 A.length c1), (1, .slice b2 A.length c2)])
    (fun _ => H) (fun i => A.length - i) 0 (by omega) (FrLe.of_lks ?_) (AH.le_refl _) fun i hi Q again out => ?_
  · simp (dsimp := false) (maxSteps := 4000000) only [go_sem, ↓reduceIte, Nat.reduceEqDiff, Nat.reduceLT, Nat.reduceLeDiff, Nat.reduceAdd, Nat.reduceMul, Nat.reduceSub, reduceCtorEq, Int.reduceToNat, Int.reduceLT, Int.reduceLE, Int.reduceEq, Int.reduceNe, Int.reduceBEq, Nat.reduceBEq, Int.reduceBNe, Nat.reduceBNe, Int.reduceAdd, Int.reduceSub, Int.reduceMul, Int.reduceNeg]
  · by_cases h : (i : Int) < A.length
    · obtain ⟨s, hx⟩ := get_some (l := A) (i := i) (by omega)
      obtain ⟨b, o, rfl, hrow, hrd⟩ := hs1.get (map_get (f := enc) hx)
      obtain ⟨b', o', rfl, hrow', hrd'⟩ := hs2.get (map_get (f := enc) hx)
      have e1 := i64_succ (i := i) (by omega)
      unfold enc at hrow hrow'
      simp (dsimp := false) (maxSteps := 4000000) only [h, go_sem, ↓reduceIte, Nat.reduceEqDiff, Nat.reduceLT, Nat.reduceLeDiff, Nat.reduceAdd, Nat.reduceMul, Nat.reduceSub, reduceCtorEq, Int.reduceToNat, Int.reduceLT, Int.reduceLE, Int.reduceEq, Int.reduceNe, Int.reduceBEq, Nat.reduceBEq, Int.reduceBNe, Nat.reduceBNe, Int.reduceAdd, Int.reduceSub, Int.reduceMul, Int.reduceNeg]
      refine AWp.quiet mixed (by kernel_rfl) ?_
      simp (dsimp := false) (maxSteps := 4000000) only [h, hrow, hrow', e1, go_sem, ↓reduceIte, Nat.reduceEqDiff, Nat.reduceLT, Nat.reduceLeDiff, Nat.reduceAdd, Nat.reduceMul, Nat.reduceSub, reduceCtorEq, Int.reduceToNat, Int.reduceLT, Int.reduceLE, Int.reduceEq, Int.reduceNe, Int.reduceBEq, Nat.reduceBEq, Int.reduceBNe, Nat.reduceBNe, Int.reduceAdd, Int.reduceSub, Int.reduceMul, Int.reduceNeg]
      exact again (i + 1) _ _ (by omega) (FrLe.of_lks (by simp (dsimp := false) (maxSteps := 4000000) only [go_sem, ↓reduceIte, Nat.reduceEqDiff, Nat.reduceLT, Nat.reduceLeDiff, Nat.reduceAdd, Nat.reduceMul, Nat.reduceSub, reduceCtorEq, Int.reduceToNat, Int.reduceLT, Int.reduceLE, Int.reduceEq, Int.reduceNe, Int.reduceBEq, Nat.reduceBEq, Int.reduceBNe, Nat.reduceBNe, Int.reduceAdd, Int.reduceSub, Int.reduceMul, Int.reduceNeg])) (AH.le_refl _) (by omega)
    · simp (dsimp := false) (maxSteps := 4000000) only [h, go_sem, ↓reduceIte, Nat.reduceEqDiff, Nat.reduceLT, Nat.reduceLeDiff, Nat.reduceAdd, Nat.reduceMul, Nat.reduceSub, reduceCtorEq, Int.reduceToNat, Int.reduceLT, Int.reduceLE, Int.reduceEq, Int.reduceNe, Int.reduceBEq, Nat.reduceBEq, Int.reduceBNe, Nat.reduceBNe, Int.reduceAdd, Int.reduceSub, Int.reduceMul, Int.reduceNeg]
      refine out _ _ _ (by simp) ?_
      simp (dsimp := false) (maxSteps := 4000000) only [go_sem, ↓reduceIte, Nat.reduceEqDiff, Nat.reduceLT, Nat.reduceLeDiff, Nat.reduceAdd, Nat.reduceMul, Nat.reduceSub, reduceCtorEq, Int.reduceToNat, Int.reduceLT, Int.reduceLE, Int.reduceEq, Int.reduceNe, Int.reduceBEq, Nat.reduceBEq, Int.reduceBNe, Nat.reduceBNe, Int.reduceAdd, Int.reduceSub, Int.reduceMul, Int.reduceNeg]
      exact ⟨H, (AH.le_refl _), (by first | exact ⟨rfl, rfl⟩ | rfl)⟩
def clash (k s : Slv) : Bool := k.phys == s.phys || (k.name == s.name && decide (0 < s.name))
def okS (seen : List Slv) (s : Slv) : Bool := decide (0 ≤ s.name) && decide (s.name ≤ 254) && !(seen.any fun k => clash k s)
def goodR (seen : List Slv) : List Slv → Bool
  | [] => true
  | s :: l => okS seen s && goodR (seen ++ [s]) l
def goodN (L : List Slv) : Bool := decide (L.length ≤ 32) && goodR [] L
theorem drop_cons {α : Type} {L : List α} {i : Nat} {s : α} (h : L[i]? = some s) : L.drop i = s :: L.drop (i + 1) := by
  have hi := lt_of_get h
  rw [List.drop_eq_getElem_cons hi]
  rw [List.getElem?_eq_getElem hi] at h
  cases h; rfl
theorem take_snoc {α : Type} {L : List α} {i : Nat} {s : α} (h : L[i]? = some s) : L.take (i + 1) = L.take i ++ [s] := by
  rw [List.take_add_one, h]; rfl
theorem good_step {L : List Slv} {i : Nat} {s : Slv} (hx : L[i]? = some s) (hg : goodR [] L = goodR (L.take i) (L.drop i)) (h : okS (L.take i) s = true) : goodR [] L = goodR (L.take (i + 1)) (L.drop (i + 1)) := by
  rw [hg, drop_cons hx, goodR, h, Bool.true_and, take_snoc hx]
theorem good_bad {L : List Slv} {i : Nat} {s : Slv} (hx : L[i]? = some s) (hg : goodR [] L = goodR (L.take i) (L.drop i)) (h : okS (L.take i) s = false) : goodN L = false := by
  unfold goodN; rw [hg, drop_cons hx, goodR, h, Bool.false_and, Bool.and_false]
theorem good_end {L : List Slv} (hg : goodR [] L = goodR (L.take L.length) (L.drop L.length)) : goodN L = decide (L.length ≤ 32) := by
  unfold goodN; rw [hg, List.drop_length, goodR, Bool.and_true]

/-! ### Maps from numbers to truth -/
def encK (k : IntKind) (p : Int × Bool) : Value × Value := (.int k p.1, .bool p.2)
def kput (x : Int) (b : Bool) : List (Int × Bool) → List (Int × Bool)
  | [] => [(x, b)]
  | (y, c) :: r => if x = y then (x, b) :: r else (y, c) :: kput x b r
def kval (x : Int) : List (Int × Bool) → Bool
  | [] => false
  | (y, c) :: r => if x = y then c else kval x r
theorem kval_put (x y : Int) (b : Bool) : ∀ ks, kval y (kput x b ks) = if y = x then b else kval y ks
  | [] => by simp [kput, kval]
  | (z, c) :: r => by
    simp only [kput]
    by_cases h : x = z
    · subst h
      by_cases hy : y = x <;> simp [kval, hy]
    · rw [if_neg h]
      simp only [kval, kval_put x y b r]
      by_cases hy : y = x
      · subst hy; simp [h]
      · simp [hy]
theorem mlk_ints (k : IntKind) (x : Int) (b : Bool) : ∀ (ks : List (Int × Bool)) (i : Nat), ∃ o, mlk (.int k) (.int k x) (ks.map (encK k)) i = some o ∧ mres false (.bool false) o = .bool (kval x ks) ∧
    (match o with | none => ks.map (encK k) ++ [(.int k x, .bool b)] = (kput x b ks).map (encK k) | some (j, _) => i ≤ j ∧ (ks.map (encK k)).set (j - i) (.int k x, .bool b) = (kput x b ks).map (encK k))
  | [], i => ⟨none, rfl, rfl, rfl⟩
  | (y, c) :: r, i => by
    by_cases h : x = y
    · subst h
      refine ⟨some (i, .bool c), by simp [mlk, encK, Instr.sameNow], by simp [mres, kval], Nat.le_refl _, ?_⟩
      simp [kput, encK]
    · obtain ⟨o, h1, h2, h3⟩ := mlk_ints k x b r (i + 1)
      have hb : (x == y) = false := by simpa using h
      refine ⟨o, by simp [mlk, encK, Instr.sameNow, hb]; exact h1, by rw [h2, kval, if_neg h], ?_⟩
      cases o with
      | none => simp only [kput, h, if_false, List.map_cons, List.cons_append] at h3 ⊢; rw [h3]
      | some p =>
        obtain ⟨j, v⟩ := p
        obtain ⟨h4, h5⟩ := h3
        refine ⟨by omega, ?_⟩
        simp only [kput, h, if_false, List.map_cons]
        rw [show j - i = (j - (i + 1)) + 1 from by omega, List.set_cons_succ, h5]
theorem mlk_put {k : IntKind} {x : Int} {b : Bool} {ks : List (Int × Bool)} : ∃ o, mlk (.int k) (.int k x) (ks.map (encK k)) 0 = some o ∧ mres false (.bool false) o = .bool (kval x ks) ∧ mput (ks.map (encK k)) (.int k x) (.bool b) o = (kput x b ks).map (encK k) := by
  obtain ⟨o, h1, h2, h3⟩ := mlk_ints k x b ks 0
  refine ⟨o, h1, h2, ?_⟩
  cases o with
  | none => exact h3
  | some p => obtain ⟨j, v⟩ := p; exact h3.2
theorem any_clash (s : Slv) : ∀ l : List Slv, (l.any fun k => clash k s) = ((l.any fun k => k.phys == s.phys) || ((l.any fun k => k.name == s.name) && decide (0 < s.name)))
  | [] => rfl
  | k :: l => by
    rw [List.any_cons, List.any_cons, List.any_cons, any_clash s l]
    show ((k.phys == s.phys || (k.name == s.name && decide (0 < s.name))) || _) = _
    cases (k.phys == s.phys) <;> cases (k.name == s.name) <;> cases decide (0 < s.name) <;> cases (l.any fun k => k.phys == s.phys) <;> cases (l.any fun k => k.name == s.name) <;> rfl
theorem okS_false {l : List Slv} {s : Slv} (h : (l.any fun k => k.phys == s.phys) = true ∨ ((l.any fun k => k.name == s.name) && decide (0 < s.name)) = true ∨ s.name < 0 ∨ 254 < s.name) : okS l s = false := by
  unfold okS
  rw [any_clash]
  rcases h with h | h | h | h
  · rw [h]; simp
  · rw [h]; simp
  · rw [decide_eq_false (by omega)]; rfl
  · rw [decide_eq_false (p := s.name ≤ 254) (by omega)]; simp
theorem okS_true {l : List Slv} {s : Slv} (h1 : (l.any fun k => k.phys == s.phys) = false) (h2 : ((l.any fun k => k.name == s.name) && decide (0 < s.name)) = false) (h3 : 0 ≤ s.name) (h4 : s.name ≤ 254) : okS l s = true := by
  unfold okS
  rw [any_clash, h1, h2, decide_eq_true h3, decide_eq_true h4]; rfl
theorem Good_c (L : List Slv) (base : Option Addr) (cap : Nat) (H : AH) (hs : SlcIn H 2 base cap (L.map enc)) :
    ACalls Try.prog 37 #[.slice base L.length cap] H (fun v H' => v = .bool (goodN L) ∧ H = H') := by
  have hle := hs.le
  have hbig := hs.big
  simp only [List.length_map] at hle hbig
  refine ACalls.enter2 Try.func37 rfl Try.ntmps37 Try.results37 (by simp) ?_; simp (dsimp := false) (maxSteps := 4000000) only [go_sem, ↓reduceIte, Nat.reduceEqDiff, Nat.reduceLT, Nat.reduceLeDiff, Nat.reduceAdd, Nat.reduceMul, Nat.reduceSub, reduceCtorEq, Int.reduceToNat, Int.reduceLT, Int.reduceLE, Int.reduceEq, Int.reduceNe, Int.reduceBEq, Nat.reduceBEq, Int.reduceBNe, Nat.reduceBNe, Int.reduceAdd, Int.reduceSub, Int.reduceMul, Int.reduceNeg]
  refine AllB.mk fun bl h_bl => ?_; have hn_bl := h_bl; (try simp only [fresh_add, fresh_set, ne_eq] at hn_bl); have hr_bl := hn_bl; (try simp only [@eq_comm Nat bl] at hr_bl); simp (dsimp := false) (maxSteps := 4000000) only [hn_bl, hr_bl, go_sem, ↓reduceIte, Nat.reduceEqDiff, Nat.reduceLT, Nat.reduceLeDiff, Nat.reduceAdd, Nat.reduceMul, Nat.reduceSub, reduceCtorEq, Int.reduceToNat, Int.reduceLT, Int.reduceLE, Int.reduceEq, Int.reduceNe, Int.reduceBEq, Nat.reduceBEq, Int.reduceBNe, Nat.reduceBNe, Int.reduceAdd, Int.reduceSub, Int.reduceMul, Int.reduceNeg]
  refine AllB.mk fun bs h_bs => ?_; have hn_bs := h_bs; (try simp only [fresh_add, fresh_set, ne_eq] at hn_bs); have hr_bs := hn_bs; (try simp only [@eq_comm Nat bs] at hr_bs); simp (dsimp := false) (maxSteps := 4000000) only [hn_bl, hr_bl, hn_bs, hr_bs, go_sem, ↓reduceIte, Nat.reduceEqDiff, Nat.reduceLT, Nat.reduceLeDiff, Nat.reduceAdd, Nat.reduceMul, Nat.reduceSub, reduceCtorEq, Int.reduceToNat, Int.reduceLT, Int.reduceLE, Int.reduceEq, Int.reduceNe, Int.reduceBEq, Nat.reduceBEq, Int.reduceBNe, Nat.reduceBNe, Int.reduceAdd, Int.reduceSub, Int.reduceMul, Int.reduceNeg]
  refine AWp.loopo (ι := Nat × List (Int × Bool) × List (Int × Bool)) (fun p => p.1 ≤ L.length ∧ goodR [] L = goodR (L.take p.1) (L.drop p.1) ∧ (∀ x, kval x p.2.1 = (L.take p.1).any fun k => k.phys == x) ∧ (∀ x, kval x p.2.2 = ((L.take p.1).any (fun k => k.name == x) && decide (0 < x))))
    (fun p => [(11, .int .i64 p.1), (3, .map (some bl)), (4, .map (some bs)), (10, .int .i64 L.length), (9, .slice base L.length cap), (0, .slice base L.length cap)])
    (fun p => (H.add bl (.amap (p.2.1.map (encK .u64)))).add bs (.amap (p.2.2.map (encK .i64)))) (fun p => L.length - p.1) (0, [], []) ⟨by simp, rfl, fun x => rfl, fun x => rfl⟩ (FrLe.of_lks ?_) (AH.le_refl _) fun p hi Q again out => ?_
  · simp (dsimp := false) (maxSteps := 4000000) only [hn_bl, hr_bl, hn_bs, hr_bs, go_sem, ↓reduceIte, Nat.reduceEqDiff, Nat.reduceLT, Nat.reduceLeDiff, Nat.reduceAdd, Nat.reduceMul, Nat.reduceSub, reduceCtorEq, Int.reduceToNat, Int.reduceLT, Int.reduceLE, Int.reduceEq, Int.reduceNe, Int.reduceBEq, Nat.reduceBEq, Int.reduceBNe, Nat.reduceBNe, Int.reduceAdd, Int.reduceSub, Int.reduceMul, Int.reduceNeg]
  · obtain ⟨i, ks, kn⟩ := p
    obtain ⟨hi, hg, hv1, hv2⟩ := hi
    simp only at hi hg hv1 hv2 ⊢
    have fG : Fresh (H.add bl (.amap (ks.map (encK .u64)))) bs := by rw [fresh_add]; exact hn_bs
    have hsG := (hs.add (k := .amap (ks.map (encK .u64))) h_bl).add (k := .amap (kn.map (encK .i64))) fG
    have fin : ∀ A : AH, H.le A → True := fun _ _ => trivial
    by_cases h : (i : Int) < L.length
    · obtain ⟨s, hx⟩ := get_some (l := L) (i := i) (by omega)
      obtain ⟨b, o, rfl, hrow, hrd⟩ := hsG.get (map_get (f := enc) hx)
      have e1 := i64_succ (i := i) (by omega)
      unfold enc at hrow
      obtain ⟨o1, m1, m2, m3⟩ := mlk_put (k := .u64) (x := s.phys) (b := true) (ks := ks)
      obtain ⟨o2, m4, m5, m6⟩ := mlk_put (k := .i64) (x := s.name) (b := decide (0 < s.name)) (ks := kn)
      rw [hv1] at m2
      rw [hv2] at m5
      
      simp (dsimp := false) (maxSteps := 4000000) only [h, hrow, hn_bl, hr_bl, hn_bs, hr_bs, go_sem, ↓reduceIte, Nat.reduceEqDiff, Nat.reduceLT, Nat.reduceLeDiff, Nat.reduceAdd, Nat.reduceMul, Nat.reduceSub, reduceCtorEq, Int.reduceToNat, Int.reduceLT, Int.reduceLE, Int.reduceEq, Int.reduceNe, Int.reduceBEq, Nat.reduceBEq, Int.reduceBNe, Nat.reduceBNe, Int.reduceAdd, Int.reduceSub, Int.reduceMul, Int.reduceNeg]
      refine AllB.mk fun b6 h_b6 => ?_; have hn_b6 := h_b6; (try simp only [fresh_add, fresh_set, ne_eq] at hn_b6); have hr_b6 := hn_b6; (try simp only [@eq_comm Nat b6] at hr_b6); simp (dsimp := false) (maxSteps := 4000000) only [hn_bl, hr_bl, hn_bs, hr_bs, hn_b6, hr_b6, go_sem, ↓reduceIte, Nat.reduceEqDiff, Nat.reduceLT, Nat.reduceLeDiff, Nat.reduceAdd, Nat.reduceMul, Nat.reduceSub, reduceCtorEq, Int.reduceToNat, Int.reduceLT, Int.reduceLE, Int.reduceEq, Int.reduceNe, Int.reduceBEq, Nat.reduceBEq, Int.reduceBNe, Nat.reduceBNe, Int.reduceAdd, Int.reduceSub, Int.reduceMul, Int.reduceNeg]
      cases c1 : (L.take i).any fun k => k.phys == s.phys with
      | true =>
        rw [c1] at m2
        simp (dsimp := false) (maxSteps := 4000000) only [m1, m2, hn_bl, hr_bl, hn_bs, hr_bs, hn_b6, hr_b6, go_sem, ↓reduceIte, Nat.reduceEqDiff, Nat.reduceLT, Nat.reduceLeDiff, Nat.reduceAdd, Nat.reduceMul, Nat.reduceSub, reduceCtorEq, Int.reduceToNat, Int.reduceLT, Int.reduceLE, Int.reduceEq, Int.reduceNe, Int.reduceBEq, Nat.reduceBEq, Int.reduceBNe, Nat.reduceBNe, Int.reduceAdd, Int.reduceSub, Int.reduceMul, Int.reduceNeg]
        refine out _ _ _ (by simp) ?_
        simp (dsimp := false) (maxSteps := 4000000) only [hn_bl, hr_bl, hn_bs, hr_bs, hn_b6, hr_b6, go_sem, ↓reduceIte, Nat.reduceEqDiff, Nat.reduceLT, Nat.reduceLeDiff, Nat.reduceAdd, Nat.reduceMul, Nat.reduceSub, reduceCtorEq, Int.reduceToNat, Int.reduceLT, Int.reduceLE, Int.reduceEq, Int.reduceNe, Int.reduceBEq, Nat.reduceBEq, Int.reduceBNe, Nat.reduceBNe, Int.reduceAdd, Int.reduceSub, Int.reduceMul, Int.reduceNeg]
        exact ⟨H, (by (repeat (first | exact AH.le_refl _ | refine AH.le_add ?_ ?_)); all_goals (first | exact AH.le_refl _ | (show AH.find _ _ = _; simp only [find_add_self, find_add_ne, find_fresh, fresh_add, ne_eq, not_false_eq_true, true_and, and_true, and_self, hn_bl, hr_bl, hn_bs, hr_bs, hn_b6, hr_b6]))), by rw [good_bad hx hg (okS_false (.inl c1))]; exact ⟨rfl, rfl⟩⟩
      | false =>
      rw [c1] at m2
      cases c2 : ((L.take i).any fun k => k.name == s.name) && decide (0 < s.name) with
      | true =>
        rw [c2] at m5
        simp (dsimp := false) (maxSteps := 4000000) only [m1, m2, m4, m5, hn_bl, hr_bl, hn_bs, hr_bs, hn_b6, hr_b6, go_sem, ↓reduceIte, Nat.reduceEqDiff, Nat.reduceLT, Nat.reduceLeDiff, Nat.reduceAdd, Nat.reduceMul, Nat.reduceSub, reduceCtorEq, Int.reduceToNat, Int.reduceLT, Int.reduceLE, Int.reduceEq, Int.reduceNe, Int.reduceBEq, Nat.reduceBEq, Int.reduceBNe, Nat.reduceBNe, Int.reduceAdd, Int.reduceSub, Int.reduceMul, Int.reduceNeg]
        refine out _ _ _ (by simp) ?_
        simp (dsimp := false) (maxSteps := 4000000) only [hn_bl, hr_bl, hn_bs, hr_bs, hn_b6, hr_b6, go_sem, ↓reduceIte, Nat.reduceEqDiff, Nat.reduceLT, Nat.reduceLeDiff, Nat.reduceAdd, Nat.reduceMul, Nat.reduceSub, reduceCtorEq, Int.reduceToNat, Int.reduceLT, Int.reduceLE, Int.reduceEq, Int.reduceNe, Int.reduceBEq, Nat.reduceBEq, Int.reduceBNe, Nat.reduceBNe, Int.reduceAdd, Int.reduceSub, Int.reduceMul, Int.reduceNeg]
        exact ⟨H, (by (repeat (first | exact AH.le_refl _ | refine AH.le_add ?_ ?_)); all_goals (first | exact AH.le_refl _ | (show AH.find _ _ = _; simp only [find_add_self, find_add_ne, find_fresh, fresh_add, ne_eq, not_false_eq_true, true_and, and_true, and_self, hn_bl, hr_bl, hn_bs, hr_bs, hn_b6, hr_b6]))), by rw [good_bad hx hg (okS_false (.inr (.inl c2)))]; exact ⟨rfl, rfl⟩⟩
      | false =>
      rw [c2] at m5
      by_cases c3 : s.name < 0
      · simp (dsimp := false) (maxSteps := 4000000) only [m1, m2, m4, m5, c3, hn_bl, hr_bl, hn_bs, hr_bs, hn_b6, hr_b6, go_sem, ↓reduceIte, Nat.reduceEqDiff, Nat.reduceLT, Nat.reduceLeDiff, Nat.reduceAdd, Nat.reduceMul, Nat.reduceSub, reduceCtorEq, Int.reduceToNat, Int.reduceLT, Int.reduceLE, Int.reduceEq, Int.reduceNe, Int.reduceBEq, Nat.reduceBEq, Int.reduceBNe, Nat.reduceBNe, Int.reduceAdd, Int.reduceSub, Int.reduceMul, Int.reduceNeg]
        refine out _ _ _ (by simp) ?_
        simp (dsimp := false) (maxSteps := 4000000) only [hn_bl, hr_bl, hn_bs, hr_bs, hn_b6, hr_b6, go_sem, ↓reduceIte, Nat.reduceEqDiff, Nat.reduceLT, Nat.reduceLeDiff, Nat.reduceAdd, Nat.reduceMul, Nat.reduceSub, reduceCtorEq, Int.reduceToNat, Int.reduceLT, Int.reduceLE, Int.reduceEq, Int.reduceNe, Int.reduceBEq, Nat.reduceBEq, Int.reduceBNe, Nat.reduceBNe, Int.reduceAdd, Int.reduceSub, Int.reduceMul, Int.reduceNeg]
        exact ⟨H, (by (repeat (first | exact AH.le_refl _ | refine AH.le_add ?_ ?_)); all_goals (first | exact AH.le_refl _ | (show AH.find _ _ = _; simp only [find_add_self, find_add_ne, find_fresh, fresh_add, ne_eq, not_false_eq_true, true_and, and_true, and_self, hn_bl, hr_bl, hn_bs, hr_bs, hn_b6, hr_b6]))), by rw [good_bad hx hg (okS_false (.inr (.inr (.inl c3))))]; exact ⟨rfl, rfl⟩⟩
      by_cases c4 : 254 < s.name
      · simp (dsimp := false) (maxSteps := 4000000) only [m1, m2, m4, m5, c3, c4, hn_bl, hr_bl, hn_bs, hr_bs, hn_b6, hr_b6, go_sem, ↓reduceIte, Nat.reduceEqDiff, Nat.reduceLT, Nat.reduceLeDiff, Nat.reduceAdd, Nat.reduceMul, Nat.reduceSub, reduceCtorEq, Int.reduceToNat, Int.reduceLT, Int.reduceLE, Int.reduceEq, Int.reduceNe, Int.reduceBEq, Nat.reduceBEq, Int.reduceBNe, Nat.reduceBNe, Int.reduceAdd, Int.reduceSub, Int.reduceMul, Int.reduceNeg]
        refine out _ _ _ (by simp) ?_
        simp (dsimp := false) (maxSteps := 4000000) only [hn_bl, hr_bl, hn_bs, hr_bs, hn_b6, hr_b6, go_sem, ↓reduceIte, Nat.reduceEqDiff, Nat.reduceLT, Nat.reduceLeDiff, Nat.reduceAdd, Nat.reduceMul, Nat.reduceSub, reduceCtorEq, Int.reduceToNat, Int.reduceLT, Int.reduceLE, Int.reduceEq, Int.reduceNe, Int.reduceBEq, Nat.reduceBEq, Int.reduceBNe, Nat.reduceBNe, Int.reduceAdd, Int.reduceSub, Int.reduceMul, Int.reduceNeg]
        exact ⟨H, (by (repeat (first | exact AH.le_refl _ | refine AH.le_add ?_ ?_)); all_goals (first | exact AH.le_refl _ | (show AH.find _ _ = _; simp only [find_add_self, find_add_ne, find_fresh, fresh_add, ne_eq, not_false_eq_true, true_and, and_true, and_self, hn_bl, hr_bl, hn_bs, hr_bs, hn_b6, hr_b6]))), by rw [good_bad hx hg (okS_false (.inr (.inr (.inr c4))))]; exact ⟨rfl, rfl⟩⟩
      simp (dsimp := false) (maxSteps := 4000000) only [m1, m2, m4, m5, c3, c4, hn_bl, hr_bl, hn_bs, hr_bs, hn_b6, hr_b6, go_sem, ↓reduceIte, Nat.reduceEqDiff, Nat.reduceLT, Nat.reduceLeDiff, Nat.reduceAdd, Nat.reduceMul, Nat.reduceSub, reduceCtorEq, Int.reduceToNat, Int.reduceLT, Int.reduceLE, Int.reduceEq, Int.reduceNe, Int.reduceBEq, Nat.reduceBEq, Int.reduceBNe, Nat.reduceBNe, Int.reduceAdd, Int.reduceSub, Int.reduceMul, Int.reduceNeg]
      refine AWp.late 9 (H.add b6 (.cells [.int .u64 s.phys, .int .i64 s.name] 66 2)) mixed (by kernel_rfl) rfl (AH.le_cons (find_add_self _ _ _) (by (repeat (first | exact AH.le_refl _ | refine AH.le_add ?_ ?_)); all_goals (first | exact AH.le_refl _ | (show AH.find _ _ = _; simp only [find_add_self, find_add_ne, find_fresh, fresh_add, ne_eq, not_false_eq_true, true_and, and_true, and_self, hn_bl, hr_bl, hn_bs, hr_bs, hn_b6, hr_b6])))) ?_
      simp (dsimp := false) (maxSteps := 4000000) only [m1, m3, m4, m6, hn_bl, hr_bl, hn_bs, hr_bs, hn_b6, hr_b6, go_sem, ↓reduceIte, Nat.reduceEqDiff, Nat.reduceLT, Nat.reduceLeDiff, Nat.reduceAdd, Nat.reduceMul, Nat.reduceSub, reduceCtorEq, Int.reduceToNat, Int.reduceLT, Int.reduceLE, Int.reduceEq, Int.reduceNe, Int.reduceBEq, Nat.reduceBEq, Int.reduceBNe, Nat.reduceBNe, Int.reduceAdd, Int.reduceSub, Int.reduceMul, Int.reduceNeg]
      refine ⟨AH.le_cons (by (show AH.find _ _ = _; simp only [find_add_self, find_add_ne, find_fresh, fresh_add, ne_eq, not_false_eq_true, true_and, and_true, and_self, hn_bl, hr_bl, hn_bs, hr_bs, hn_b6, hr_b6])) (by (repeat (first | exact AH.le_refl _ | refine AH.le_add ?_ ?_)); all_goals (first | exact AH.le_refl _ | (show AH.find _ _ = _; simp only [find_add_self, find_add_ne, find_fresh, fresh_add, ne_eq, not_false_eq_true, true_and, and_true, and_self, hn_bl, hr_bl, hn_bs, hr_bs, hn_b6, hr_b6]))), ?_⟩
      refine ⟨AH.le_cons (by (show AH.find _ _ = _; simp only [find_add_self, find_add_ne, find_fresh, fresh_add, ne_eq, not_false_eq_true, true_and, and_true, and_self, hn_bl, hr_bl, hn_bs, hr_bs, hn_b6, hr_b6])) (by (repeat (first | exact AH.le_refl _ | refine AH.le_add ?_ ?_)); all_goals (first | exact AH.le_refl _ | (show AH.find _ _ = _; simp only [find_add_self, find_add_ne, find_fresh, fresh_add, ne_eq, not_false_eq_true, true_and, and_true, and_self, hn_bl, hr_bl, hn_bs, hr_bs, hn_b6, hr_b6]))), ?_⟩
      simp (dsimp := false) (maxSteps := 4000000) only [e1, hn_bl, hr_bl, hn_bs, hr_bs, hn_b6, hr_b6, go_sem, ↓reduceIte, Nat.reduceEqDiff, Nat.reduceLT, Nat.reduceLeDiff, Nat.reduceAdd, Nat.reduceMul, Nat.reduceSub, reduceCtorEq, Int.reduceToNat, Int.reduceLT, Int.reduceLE, Int.reduceEq, Int.reduceNe, Int.reduceBEq, Nat.reduceBEq, Int.reduceBNe, Nat.reduceBNe, Int.reduceAdd, Int.reduceSub, Int.reduceMul, Int.reduceNeg]
      refine again (i + 1, kput s.phys true ks, kput s.name (decide (0 < s.name)) kn) _ _ ⟨by simp only; omega, good_step hx hg (okS_true c1 c2 (by omega) (by omega)), fun x => ?_, fun x => ?_⟩ (FrLe.of_lks (by simp (dsimp := false) (maxSteps := 4000000) only [hn_bl, hr_bl, hn_bs, hr_bs, hn_b6, hr_b6, go_sem, ↓reduceIte, Nat.reduceEqDiff, Nat.reduceLT, Nat.reduceLeDiff, Nat.reduceAdd, Nat.reduceMul, Nat.reduceSub, reduceCtorEq, Int.reduceToNat, Int.reduceLT, Int.reduceLE, Int.reduceEq, Int.reduceNe, Int.reduceBEq, Nat.reduceBEq, Int.reduceBNe, Nat.reduceBNe, Int.reduceAdd, Int.reduceSub, Int.reduceMul, Int.reduceNeg])) (AH.le_cons (by (show AH.find _ _ = _; simp only [find_add_self, find_add_ne, find_fresh, fresh_add, ne_eq, not_false_eq_true, true_and, and_true, and_self, hn_bl, hr_bl, hn_bs, hr_bs, hn_b6, hr_b6])) (AH.le_cons (by (show AH.find _ _ = _; simp only [find_add_self, find_add_ne, find_fresh, fresh_add, ne_eq, not_false_eq_true, true_and, and_true, and_self, hn_bl, hr_bl, hn_bs, hr_bs, hn_b6, hr_b6])) (by (repeat (first | exact AH.le_refl _ | refine AH.le_add ?_ ?_)); all_goals (first | exact AH.le_refl _ | (show AH.find _ _ = _; simp only [find_add_self, find_add_ne, find_fresh, fresh_add, ne_eq, not_false_eq_true, true_and, and_true, and_self, hn_bl, hr_bl, hn_bs, hr_bs, hn_b6, hr_b6]))))) (by simp only; omega)
      · simp only
        rw [kval_put, hv1, take_snoc hx, List.any_append]
        by_cases hxx : x = s.phys
        · subst hxx; simp
        · have hb : (s.phys == x) = false := beq_eq_false_iff_ne.2 (Ne.symm hxx)
          rw [if_neg hxx]; simp [hb]
      · simp only
        rw [kval_put, hv2, take_snoc hx, List.any_append]
        by_cases hxx : x = s.name
        · subst hxx; simp
        · have hb : (s.name == x) = false := beq_eq_false_iff_ne.2 (Ne.symm hxx)
          rw [if_neg hxx]; simp [hb]
      
    · simp (dsimp := false) (maxSteps := 4000000) only [h, hn_bl, hr_bl, hn_bs, hr_bs, go_sem, ↓reduceIte, Nat.reduceEqDiff, Nat.reduceLT, Nat.reduceLeDiff, Nat.reduceAdd, Nat.reduceMul, Nat.reduceSub, reduceCtorEq, Int.reduceToNat, Int.reduceLT, Int.reduceLE, Int.reduceEq, Int.reduceNe, Int.reduceBEq, Nat.reduceBEq, Int.reduceBNe, Nat.reduceBNe, Int.reduceAdd, Int.reduceSub, Int.reduceMul, Int.reduceNeg]
      refine out _ _ _ (by simp) ?_
      have hiL : i = L.length := by omega
      rw [hiL] at hg
      simp (dsimp := false) (maxSteps := 4000000) only [hn_bl, hr_bl, hn_bs, hr_bs, go_sem, ↓reduceIte, Nat.reduceEqDiff, Nat.reduceLT, Nat.reduceLeDiff, Nat.reduceAdd, Nat.reduceMul, Nat.reduceSub, reduceCtorEq, Int.reduceToNat, Int.reduceLT, Int.reduceLE, Int.reduceEq, Int.reduceNe, Int.reduceBEq, Nat.reduceBEq, Int.reduceBNe, Nat.reduceBNe, Int.reduceAdd, Int.reduceSub, Int.reduceMul, Int.reduceNeg]
      refine ⟨H, (by (repeat (first | exact AH.le_refl _ | refine AH.le_add ?_ ?_)); all_goals (first | exact AH.le_refl _ | (show AH.find _ _ = _; simp only [find_add_self, find_add_ne, find_fresh, fresh_add, ne_eq, not_false_eq_true, true_and, and_true, and_self, hn_bl, hr_bl, hn_bs, hr_bs]))), ?_, rfl⟩
      rw [good_end hg]
      congr 1; congr 1
      exact propext ⟨fun h => by omega, fun h => by omega⟩
theorem any_take {L : List Slv} {p : Slv → Bool} {i j : Nat} {t : Slv} (hx : L[j]? = some t) (hj : j < i) (hp : p t = true) : (L.take i).any p = true :=
  List.any_eq_true.2 ⟨t, List.mem_of_getElem? (i := j) (by rw [List.getElem?_take, if_pos hj]; exact hx), hp⟩
theorem none_take {L : List Slv} {p : Slv → Bool} {i : Nat} (h : ∀ (j : Nat) (t : Slv), j < i → L[j]? = some t → p t = false) : (L.take i).any p = false := by
  rw [List.any_eq_false]
  intro t ht
  obtain ⟨j, hj⟩ := List.mem_iff_getElem?.1 ht
  rw [List.getElem?_take] at hj
  split at hj
  · rename_i hlt; simp [h j t hlt hj]
  · cases hj
theorem RefGood_c (L : List Slv) (base : Option Addr) (cap : Nat) (H : AH) (hs : SlcIn H 2 base cap (L.map enc)) :
    ACalls Try.prog 16 #[.slice base L.length cap] H (fun v H' => v = .bool (goodN L) ∧ H = H') := by
  have hle := hs.le
  have hbig := hs.big
  simp only [List.length_map] at hle hbig
  refine ACalls.enter2 Try.func16 rfl Try.ntmps16 Try.results16 (by simp) ?_; simp (dsimp := false) (maxSteps := 4000000) only [go_sem, ↓reduceIte, Nat.reduceEqDiff, Nat.reduceLT, Nat.reduceLeDiff, Nat.reduceAdd, Nat.reduceMul, Nat.reduceSub, reduceCtorEq, Int.reduceToNat, Int.reduceLT, Int.reduceLE, Int.reduceEq, Int.reduceNe, Int.reduceBEq, Nat.reduceBEq, Int.reduceBNe, Nat.reduceBNe, Int.reduceAdd, Int.reduceSub, Int.reduceMul, Int.reduceNeg]
  refine AWp.loopo (ι := Nat) (fun i => i ≤ L.length ∧ goodR [] L = goodR (L.take i) (L.drop i)) (fun i => [(3, .int .i64 i), (0, .slice base L.length cap)])
    (fun _ => H) (fun i => L.length - i) 0 ⟨by omega, rfl⟩ (FrLe.of_lks ?_) (AH.le_refl _) fun i hi Q again out => ?_
  · simp (dsimp := false) (maxSteps := 4000000) only [go_sem, ↓reduceIte, Nat.reduceEqDiff, Nat.reduceLT, Nat.reduceLeDiff, Nat.reduceAdd, Nat.reduceMul, Nat.reduceSub, reduceCtorEq, Int.reduceToNat, Int.reduceLT, Int.reduceLE, Int.reduceEq, Int.reduceNe, Int.reduceBEq, Nat.reduceBEq, Int.reduceBNe, Nat.reduceBNe, Int.reduceAdd, Int.reduceSub, Int.reduceMul, Int.reduceNeg]
  · obtain ⟨hi, hg⟩ := hi
    by_cases h : (i : Int) < L.length
    · obtain ⟨s, hx⟩ := get_some (l := L) (i := i) (by omega)
      obtain ⟨b, o, rfl, hrow, hrd⟩ := hs.get (map_get (f := enc) hx)
      have r0 := hrd 0 _ rfl
      have r1 := hrd 1 _ rfl
      rw [Nat.add_zero] at r0
      have e1 := i64_succ (i := i) (by omega)
      by_cases c3 : s.name < 0
      · simp (dsimp := false) (maxSteps := 4000000) only [h, r1, c3, go_sem, ↓reduceIte, Nat.reduceEqDiff, Nat.reduceLT, Nat.reduceLeDiff, Nat.reduceAdd, Nat.reduceMul, Nat.reduceSub, reduceCtorEq, Int.reduceToNat, Int.reduceLT, Int.reduceLE, Int.reduceEq, Int.reduceNe, Int.reduceBEq, Nat.reduceBEq, Int.reduceBNe, Nat.reduceBNe, Int.reduceAdd, Int.reduceSub, Int.reduceMul, Int.reduceNeg]
        refine out _ _ _ (by simp) ?_
        simp (dsimp := false) (maxSteps := 4000000) only [go_sem, ↓reduceIte, Nat.reduceEqDiff, Nat.reduceLT, Nat.reduceLeDiff, Nat.reduceAdd, Nat.reduceMul, Nat.reduceSub, reduceCtorEq, Int.reduceToNat, Int.reduceLT, Int.reduceLE, Int.reduceEq, Int.reduceNe, Int.reduceBEq, Nat.reduceBEq, Int.reduceBNe, Nat.reduceBNe, Int.reduceAdd, Int.reduceSub, Int.reduceMul, Int.reduceNeg]
        exact ⟨H, (AH.le_refl _), (by first | exact ⟨by rw [good_bad hx hg (okS_false (.inr (.inr (.inl c3))))], rfl⟩ | rfl)⟩
      by_cases c4 : 254 < s.name
      · simp (dsimp := false) (maxSteps := 4000000) only [h, r1, c3, c4, go_sem, ↓reduceIte, Nat.reduceEqDiff, Nat.reduceLT, Nat.reduceLeDiff, Nat.reduceAdd, Nat.reduceMul, Nat.reduceSub, reduceCtorEq, Int.reduceToNat, Int.reduceLT, Int.reduceLE, Int.reduceEq, Int.reduceNe, Int.reduceBEq, Nat.reduceBEq, Int.reduceBNe, Nat.reduceBNe, Int.reduceAdd, Int.reduceSub, Int.reduceMul, Int.reduceNeg]
        refine out _ _ _ (by simp) ?_
        simp (dsimp := false) (maxSteps := 4000000) only [go_sem, ↓reduceIte, Nat.reduceEqDiff, Nat.reduceLT, Nat.reduceLeDiff, Nat.reduceAdd, Nat.reduceMul, Nat.reduceSub, reduceCtorEq, Int.reduceToNat, Int.reduceLT, Int.reduceLE, Int.reduceEq, Int.reduceNe, Int.reduceBEq, Nat.reduceBEq, Int.reduceBNe, Nat.reduceBNe, Int.reduceAdd, Int.reduceSub, Int.reduceMul, Int.reduceNeg]
        exact ⟨H, (AH.le_refl _), (by first | exact ⟨by rw [good_bad hx hg (okS_false (.inr (.inr (.inr c4))))], rfl⟩ | rfl)⟩
      simp (dsimp := false) (maxSteps := 4000000) only [h, r1, c3, c4, go_sem, ↓reduceIte, Nat.reduceEqDiff, Nat.reduceLT, Nat.reduceLeDiff, Nat.reduceAdd, Nat.reduceMul, Nat.reduceSub, reduceCtorEq, Int.reduceToNat, Int.reduceLT, Int.reduceLE, Int.reduceEq, Int.reduceNe, Int.reduceBEq, Nat.reduceBEq, Int.reduceBNe, Nat.reduceBNe, Int.reduceAdd, Int.reduceSub, Int.reduceMul, Int.reduceNeg]
      refine AWp.loopo (ι := Nat) (fun k => k ≤ i ∧ ∀ (j : Nat) (t : Slv), j < k → L[j]? = some t → clash t s = false) (fun k => [(4, .int .i64 k), (3, .int .i64 i), (0, .slice (some ⟨b, o, none⟩) L.length cap)])
        (fun _ => H) (fun k => i - k) 0 ⟨by omega, fun j t hj => by omega⟩ (FrLe.of_lks ?_) (AH.le_refl _) fun k hk Q2 again2 out2 => ?_
      · simp (dsimp := false) (maxSteps := 4000000) only [go_sem, ↓reduceIte, Nat.reduceEqDiff, Nat.reduceLT, Nat.reduceLeDiff, Nat.reduceAdd, Nat.reduceMul, Nat.reduceSub, reduceCtorEq, Int.reduceToNat, Int.reduceLT, Int.reduceLE, Int.reduceEq, Int.reduceNe, Int.reduceBEq, Nat.reduceBEq, Int.reduceBNe, Nat.reduceBNe, Int.reduceAdd, Int.reduceSub, Int.reduceMul, Int.reduceNeg]
      · obtain ⟨hk, hn⟩ := hk
        by_cases hki : (k : Int) < i
        · obtain ⟨t, ht⟩ := get_some (l := L) (i := k) (by omega)
          obtain ⟨b', o', hb', hrow', hrd'⟩ := hs.get (map_get (f := enc) ht)
          cases hb'
          have q0 := hrd' 0 _ rfl
          have q1 := hrd' 1 _ rfl
          rw [Nat.add_zero] at q0
          have hkl : (k : Int) < L.length := by omega
          have e2 := i64_succ (i := k) (by omega)
          simp (dsimp := false) (maxSteps := 4000000) only [hki, go_sem, ↓reduceIte, Nat.reduceEqDiff, Nat.reduceLT, Nat.reduceLeDiff, Nat.reduceAdd, Nat.reduceMul, Nat.reduceSub, reduceCtorEq, Int.reduceToNat, Int.reduceLT, Int.reduceLE, Int.reduceEq, Int.reduceNe, Int.reduceBEq, Nat.reduceBEq, Int.reduceBNe, Nat.reduceBNe, Int.reduceAdd, Int.reduceSub, Int.reduceMul, Int.reduceNeg]
          refine AWp.quiet mixed (by kernel_rfl) ?_
          by_cases d1 : t.phys = s.phys
          · simp (dsimp := false) (maxSteps := 4000000) only [h, hkl, r0, r1, q0, q1, d1, go_sem, ↓reduceIte, Nat.reduceEqDiff, Nat.reduceLT, Nat.reduceLeDiff, Nat.reduceAdd, Nat.reduceMul, Nat.reduceSub, reduceCtorEq, Int.reduceToNat, Int.reduceLT, Int.reduceLE, Int.reduceEq, Int.reduceNe, Int.reduceBEq, Nat.reduceBEq, Int.reduceBNe, Nat.reduceBNe, Int.reduceAdd, Int.reduceSub, Int.reduceMul, Int.reduceNeg]
            refine out2 _ _ _ (by simp) ?_
            simp (dsimp := false) (maxSteps := 4000000) only [go_sem, ↓reduceIte, Nat.reduceEqDiff, Nat.reduceLT, Nat.reduceLeDiff, Nat.reduceAdd, Nat.reduceMul, Nat.reduceSub, reduceCtorEq, Int.reduceToNat, Int.reduceLT, Int.reduceLE, Int.reduceEq, Int.reduceNe, Int.reduceBEq, Nat.reduceBEq, Int.reduceBNe, Nat.reduceBNe, Int.reduceAdd, Int.reduceSub, Int.reduceMul, Int.reduceNeg]
            refine out _ _ _ (by simp) ?_
            simp (dsimp := false) (maxSteps := 4000000) only [go_sem, ↓reduceIte, Nat.reduceEqDiff, Nat.reduceLT, Nat.reduceLeDiff, Nat.reduceAdd, Nat.reduceMul, Nat.reduceSub, reduceCtorEq, Int.reduceToNat, Int.reduceLT, Int.reduceLE, Int.reduceEq, Int.reduceNe, Int.reduceBEq, Nat.reduceBEq, Int.reduceBNe, Nat.reduceBNe, Int.reduceAdd, Int.reduceSub, Int.reduceMul, Int.reduceNeg]
            exact ⟨H, (AH.le_refl _), (by first | exact ⟨by rw [good_bad hx hg (okS_false (.inl (any_take ht (by omega) (by simp [d1]))))], rfl⟩ | rfl)⟩
          by_cases d2 : t.name = s.name
          · by_cases d3 : 0 < s.name
            · simp (dsimp := false) (maxSteps := 4000000) only [h, hkl, r0, r1, q0, q1, d1, d2, d3, go_sem, ↓reduceIte, Nat.reduceEqDiff, Nat.reduceLT, Nat.reduceLeDiff, Nat.reduceAdd, Nat.reduceMul, Nat.reduceSub, reduceCtorEq, Int.reduceToNat, Int.reduceLT, Int.reduceLE, Int.reduceEq, Int.reduceNe, Int.reduceBEq, Nat.reduceBEq, Int.reduceBNe, Nat.reduceBNe, Int.reduceAdd, Int.reduceSub, Int.reduceMul, Int.reduceNeg]
              refine out2 _ _ _ (by simp) ?_
              simp (dsimp := false) (maxSteps := 4000000) only [go_sem, ↓reduceIte, Nat.reduceEqDiff, Nat.reduceLT, Nat.reduceLeDiff, Nat.reduceAdd, Nat.reduceMul, Nat.reduceSub, reduceCtorEq, Int.reduceToNat, Int.reduceLT, Int.reduceLE, Int.reduceEq, Int.reduceNe, Int.reduceBEq, Nat.reduceBEq, Int.reduceBNe, Nat.reduceBNe, Int.reduceAdd, Int.reduceSub, Int.reduceMul, Int.reduceNeg]
              refine out _ _ _ (by simp) ?_
              simp (dsimp := false) (maxSteps := 4000000) only [go_sem, ↓reduceIte, Nat.reduceEqDiff, Nat.reduceLT, Nat.reduceLeDiff, Nat.reduceAdd, Nat.reduceMul, Nat.reduceSub, reduceCtorEq, Int.reduceToNat, Int.reduceLT, Int.reduceLE, Int.reduceEq, Int.reduceNe, Int.reduceBEq, Nat.reduceBEq, Int.reduceBNe, Nat.reduceBNe, Int.reduceAdd, Int.reduceSub, Int.reduceMul, Int.reduceNeg]
              have hb : goodN L = false := good_bad hx hg (okS_false (.inr (.inl (by rw [any_take (p := fun k => k.name == s.name) ht (by omega) (by simp [d2]), decide_eq_true d3]; rfl))))
              exact ⟨H, (AH.le_refl _), (by first | exact ⟨by rw [hb], rfl⟩ | rfl)⟩
            · simp (dsimp := false) (maxSteps := 4000000) only [h, hkl, r0, r1, q0, q1, d1, d2, d3, e2, go_sem, ↓reduceIte, Nat.reduceEqDiff, Nat.reduceLT, Nat.reduceLeDiff, Nat.reduceAdd, Nat.reduceMul, Nat.reduceSub, reduceCtorEq, Int.reduceToNat, Int.reduceLT, Int.reduceLE, Int.reduceEq, Int.reduceNe, Int.reduceBEq, Nat.reduceBEq, Int.reduceBNe, Nat.reduceBNe, Int.reduceAdd, Int.reduceSub, Int.reduceMul, Int.reduceNeg]
              refine again2 (k + 1) _ _ ⟨by omega, fun j t' hj h' => ?_⟩ (FrLe.of_lks (by simp (dsimp := false) (maxSteps := 4000000) only [go_sem, ↓reduceIte, Nat.reduceEqDiff, Nat.reduceLT, Nat.reduceLeDiff, Nat.reduceAdd, Nat.reduceMul, Nat.reduceSub, reduceCtorEq, Int.reduceToNat, Int.reduceLT, Int.reduceLE, Int.reduceEq, Int.reduceNe, Int.reduceBEq, Nat.reduceBEq, Int.reduceBNe, Nat.reduceBNe, Int.reduceAdd, Int.reduceSub, Int.reduceMul, Int.reduceNeg])) (AH.le_refl _) (by omega)
              by_cases hj2 : j = k
              · subst hj2; rw [ht] at h'; cases h'; unfold clash; rw [decide_eq_false d3, beq_eq_false_iff_ne.2 d1, Bool.and_false]; rfl
              · exact hn j t' (by omega) h'
          · simp (dsimp := false) (maxSteps := 4000000) only [h, hkl, r0, r1, q0, q1, d1, d2, e2, go_sem, ↓reduceIte, Nat.reduceEqDiff, Nat.reduceLT, Nat.reduceLeDiff, Nat.reduceAdd, Nat.reduceMul, Nat.reduceSub, reduceCtorEq, Int.reduceToNat, Int.reduceLT, Int.reduceLE, Int.reduceEq, Int.reduceNe, Int.reduceBEq, Nat.reduceBEq, Int.reduceBNe, Nat.reduceBNe, Int.reduceAdd, Int.reduceSub, Int.reduceMul, Int.reduceNeg]
            refine again2 (k + 1) _ _ ⟨by omega, fun j t' hj h' => ?_⟩ (FrLe.of_lks (by simp (dsimp := false) (maxSteps := 4000000) only [go_sem, ↓reduceIte, Nat.reduceEqDiff, Nat.reduceLT, Nat.reduceLeDiff, Nat.reduceAdd, Nat.reduceMul, Nat.reduceSub, reduceCtorEq, Int.reduceToNat, Int.reduceLT, Int.reduceLE, Int.reduceEq, Int.reduceNe, Int.reduceBEq, Nat.reduceBEq, Int.reduceBNe, Nat.reduceBNe, Int.reduceAdd, Int.reduceSub, Int.reduceMul, Int.reduceNeg])) (AH.le_refl _) (by omega)
            by_cases hj2 : j = k
            · subst hj2; rw [ht] at h'; cases h'; unfold clash; rw [beq_eq_false_iff_ne.2 d1, beq_eq_false_iff_ne.2 d2]; rfl
            · exact hn j t' (by omega) h'
        · obtain rfl : k = i := by omega
          have hany := none_take (p := fun t => clash t s) hn
          simp (dsimp := false) (maxSteps := 4000000) only [hki, go_sem, ↓reduceIte, Nat.reduceEqDiff, Nat.reduceLT, Nat.reduceLeDiff, Nat.reduceAdd, Nat.reduceMul, Nat.reduceSub, reduceCtorEq, Int.reduceToNat, Int.reduceLT, Int.reduceLE, Int.reduceEq, Int.reduceNe, Int.reduceBEq, Nat.reduceBEq, Int.reduceBNe, Nat.reduceBNe, Int.reduceAdd, Int.reduceSub, Int.reduceMul, Int.reduceNeg]
          refine out2 _ _ _ (by simp) ?_
          simp (dsimp := false) (maxSteps := 4000000) only [e1, go_sem, ↓reduceIte, Nat.reduceEqDiff, Nat.reduceLT, Nat.reduceLeDiff, Nat.reduceAdd, Nat.reduceMul, Nat.reduceSub, reduceCtorEq, Int.reduceToNat, Int.reduceLT, Int.reduceLE, Int.reduceEq, Int.reduceNe, Int.reduceBEq, Nat.reduceBEq, Int.reduceBNe, Nat.reduceBNe, Int.reduceAdd, Int.reduceSub, Int.reduceMul, Int.reduceNeg]
          refine again (k + 1) _ _ ⟨by omega, good_step hx hg ?_⟩ (FrLe.of_lks (by simp (dsimp := false) (maxSteps := 4000000) only [go_sem, ↓reduceIte, Nat.reduceEqDiff, Nat.reduceLT, Nat.reduceLeDiff, Nat.reduceAdd, Nat.reduceMul, Nat.reduceSub, reduceCtorEq, Int.reduceToNat, Int.reduceLT, Int.reduceLE, Int.reduceEq, Int.reduceNe, Int.reduceBEq, Nat.reduceBEq, Int.reduceBNe, Nat.reduceBNe, Int.reduceAdd, Int.reduceSub, Int.reduceMul, Int.reduceNeg])) (AH.le_refl _) (by omega)
          unfold okS; rw [hany, decide_eq_true (by omega), decide_eq_true (by omega)]; rfl
    · simp (dsimp := false) (maxSteps := 4000000) only [h, go_sem, ↓reduceIte, Nat.reduceEqDiff, Nat.reduceLT, Nat.reduceLeDiff, Nat.reduceAdd, Nat.reduceMul, Nat.reduceSub, reduceCtorEq, Int.reduceToNat, Int.reduceLT, Int.reduceLE, Int.reduceEq, Int.reduceNe, Int.reduceBEq, Nat.reduceBEq, Int.reduceBNe, Nat.reduceBNe, Int.reduceAdd, Int.reduceSub, Int.reduceMul, Int.reduceNeg]
      refine out _ _ _ (by simp) ?_
      have hiL : i = L.length := by omega
      rw [hiL] at hg
      simp (dsimp := false) (maxSteps := 4000000) only [go_sem, ↓reduceIte, Nat.reduceEqDiff, Nat.reduceLT, Nat.reduceLeDiff, Nat.reduceAdd, Nat.reduceMul, Nat.reduceSub, reduceCtorEq, Int.reduceToNat, Int.reduceLT, Int.reduceLE, Int.reduceEq, Int.reduceNe, Int.reduceBEq, Nat.reduceBEq, Int.reduceBNe, Nat.reduceBNe, Int.reduceAdd, Int.reduceSub, Int.reduceMul, Int.reduceNeg]
      refine ⟨H, AH.le_refl _, ?_, rfl⟩
      rw [good_end hg]
      congr 1; congr 1
      exact propext ⟨fun h => by omega, fun h => by omega⟩

/-! ### few -/
structure GoodI (L : List Slv) : Prop where
  len : L.length ≤ 32
  rng : ∀ (i : Nat) (s : Slv), L[i]? = some s → 0 ≤ s.name ∧ s.name ≤ 254
  dis : ∀ (i j : Nat) (s t : Slv), i < j → L[i]? = some s → L[j]? = some t → ¬ s.phys = t.phys ∧ (s.name = t.name → ¬ 0 < t.name)
theorem clash_iff {s t : Slv} : clash s t = false ↔ ¬ s.phys = t.phys ∧ (s.name = t.name → ¬ 0 < t.name) := by
  unfold clash
  by_cases h1 : s.phys = t.phys <;> by_cases h2 : s.name = t.name <;> by_cases h3 : 0 < t.name <;> simp [h1, h2, h3]
  all_goals omega
theorem okS_iff {l : List Slv} {s : Slv} : okS l s = true ↔ 0 ≤ s.name ∧ s.name ≤ 254 ∧ ∀ t ∈ l, clash t s = false := by
  unfold okS
  simp only [Bool.and_eq_true, decide_eq_true_eq, Bool.not_eq_true', List.any_eq_false, Bool.not_eq_true, and_assoc]
theorem goodR_iff : ∀ (L seen : List Slv), goodR seen L = true ↔ ∀ (i : Nat) (s : Slv), L[i]? = some s → okS (seen ++ L.take i) s = true
  | [], seen => by simp [goodR]
  | x :: l, seen => by
    rw [goodR, Bool.and_eq_true, goodR_iff l]
    constructor
    · intro ⟨h1, h2⟩ i s h
      cases i with
      | zero => simp at h; subst h; simpa using h1
      | succ i => simpa using h2 i s (by simpa using h)
    · intro h
      exact ⟨by simpa using h 0 x rfl, fun i s hi => by simpa using h (i + 1) s (by simpa using hi)⟩
theorem mem_take_iff {L : List Slv} {i : Nat} {t : Slv} : t ∈ L.take i ↔ ∃ j, j < i ∧ L[j]? = some t := by
  rw [List.mem_iff_getElem?]
  constructor
  · intro ⟨j, h⟩
    rw [List.getElem?_take] at h
    split at h
    · exact ⟨j, ‹_›, h⟩
    · cases h
  · intro ⟨j, h1, h2⟩
    exact ⟨j, by rw [List.getElem?_take, if_pos h1]; exact h2⟩
theorem goodN_iff {L : List Slv} : goodN L = true ↔ GoodI L := by
  unfold goodN
  rw [Bool.and_eq_true, decide_eq_true_eq, goodR_iff]
  constructor
  · intro ⟨h1, h2⟩
    refine ⟨h1, fun i s h => ?_, fun i j s t hij hi hj => ?_⟩
    · have := okS_iff.1 (h2 i s h); exact ⟨this.1, this.2.1⟩
    · have := okS_iff.1 (h2 j t hj)
      exact clash_iff.1 (this.2.2 s (by rw [List.nil_append]; exact mem_take_iff.2 ⟨i, hij, hi⟩))
  · intro h
    refine ⟨h.len, fun i s hi => okS_iff.2 ⟨(h.rng i s hi).1, (h.rng i s hi).2, fun t ht => ?_⟩⟩
    rw [List.nil_append] at ht
    obtain ⟨j, hj, hjt⟩ := mem_take_iff.1 ht
    exact clash_iff.2 (h.dis j i t s hj hjt hi)
theorem GoodI.uniq {L : List Slv} (h : GoodI L) : uniq L := by
  intro i j s t hi hj hp
  rcases Nat.lt_trichotomy i j with h1 | h1 | h1
  · exact absurd hp (h.dis i j s t h1 hi hj).1
  · exact h1
  · exact absurd hp.symm (h.dis j i t s h1 hj hi).1
theorem GoodI.names {L : List Slv} (h : GoodI L) {i j : Nat} {s t : Slv} (hi : L[i]? = some s) (hj : L[j]? = some t) (hn : s.name = t.name) (h0 : 0 < s.name) : i = j := by
  rcases Nat.lt_trichotomy i j with h1 | h1 | h1
  · exact absurd (by omega) ((h.dis i j s t h1 hi hj).2 hn)
  · exact h1
  · exact absurd (by omega) ((h.dis j i t s h1 hj hi).2 hn.symm)

/-! ### Who is least -/
theorem atN_none {L : List Slv} : ∀ {i : Nat}, i ≤ L.length → atN L i = none → ∀ (j : Nat) (s : Slv), j < i → L[j]? = some s → ¬ s.name = 0
  | 0, _, _, j, s, hj, _ => by omega
  | i + 1, hi, h, j, s, hj, hs => by
    obtain ⟨t, hx⟩ := get_some (l := L) (i := i) (by omega)
    cases hat : atN L i with
    | none =>
      rw [atN_first hx hat] at h
      by_cases hji : j = i
      · subst hji; rw [hx] at hs; cases hs
        intro h0; rw [if_pos h0] at h; cases h
      · exact atN_none (by omega) hat j s (by omega) hs
    | some k =>
      obtain ⟨t', ht', _⟩ := atN_name (by omega) hat
      rw [atN_next hx ht' hat] at h
      split at h <;> cases h
theorem atN_least {L : List Slv} : ∀ {i k : Nat} {u : Slv}, i ≤ L.length → atN L i = some k → L[k]? = some u → ∀ (j : Nat) (s : Slv), j < i → L[j]? = some s → s.name = 0 → u.phys ≤ s.phys
  | 0, _, _, _, _, _, j, s, hj, _, _ => by omega
  | i + 1, k, u, hi, h, hu, j, s, hj, hs, h0 => by
    obtain ⟨t, hx⟩ := get_some (l := L) (i := i) (by omega)
    cases hat : atN L i with
    | none =>
      rw [atN_first hx hat] at h
      by_cases hji : j = i
      · subst hji; rw [hx] at hs; cases hs
        rw [if_pos h0] at h; cases h; rw [hx] at hu; cases hu; omega
      · exact absurd h0 (atN_none (by omega) hat j s (by omega) hs)
    | some k' =>
      obtain ⟨t', ht', _⟩ := atN_name (by omega) hat
      rw [atN_next hx ht' hat] at h
      have ih := atN_least (by omega) hat ht'
      split at h
      · rename_i hc; cases h; rw [hx] at hu; cases hu
        by_cases hji : j = i
        · subst hji; rw [hx] at hs; cases hs; omega
        · have := ih j s (by omega) hs h0; omega
      · rename_i hc; cases h; rw [ht'] at hu; cases hu
        by_cases hji : j = i
        · subst hji; rw [hx] at hs; cases hs
          have : ¬ s.phys < u.phys := fun hl => hc ⟨h0, hl⟩
          omega
        · exact ih j s (by omega) hs h0

/-! ### The first free name -/
def used (L : List Slv) (n : Int) : Prop := ∃ (i : Nat) (s : Slv), L[i]? = some s ∧ s.name = n
theorem any_used {L : List Slv} {n : Int} : (L.any fun s => s.name == n) = true ↔ used L n := by
  rw [List.any_eq_true]
  constructor
  · intro ⟨s, h1, h2⟩
    obtain ⟨i, hi⟩ := List.mem_iff_getElem?.1 h1
    exact ⟨i, s, hi, by simpa using h2⟩
  · intro ⟨i, s, h1, h2⟩
    exact ⟨s, List.mem_of_getElem? h1, by simpa using h2⟩
theorem freeF_some {L : List Slv} {m : Int} : ∀ {f : Nat} {n r : Int}, freeF L m f n = some r → ¬ used L r ∧ ∀ x, n ≤ x → x < r → used L x
  | 0, _, _, h => by cases h
  | f + 1, n, r, h => by
    rw [freeF] at h
    split at h
    · split at h
      · rename_i hu
        have ih := freeF_some h
        refine ⟨ih.1, fun x h1 h2 => ?_⟩
        by_cases hx : x = n
        · subst hx; exact any_used.1 hu
        · exact ih.2 x (by omega) h2
      · rename_i hu
        cases h
        exact ⟨fun h => hu (any_used.2 h), fun x h1 h2 => by omega⟩
    · cases h
theorem freeF_none {L : List Slv} {m : Int} : ∀ {f : Nat} {n : Int}, freeF L m f n = none → m < n + f → ∀ x, n ≤ x → x ≤ m → used L x
  | 0, n, _, hf, x, h1, h2 => by omega
  | f + 1, n, h, hf, x, h1, h2 => by
    rw [freeF] at h
    split at h
    · split at h
      · rename_i hu
        by_cases hx : x = n
        · subst hx; exact any_used.1 hu
        · exact freeF_none h (by omega) x (by omega) h2
      · cases h
    · omega
theorem freev_some {L : List Slv} {most n : Int} (h : freev L most = some n) : 1 ≤ n ∧ n ≤ 254 ∧ ¬ used L n ∧ ∀ x, 1 ≤ x → x < n → used L x := by
  have h1 := freeF_ge h
  have h2 := freeF_some h
  have h3 := (lim_le most).1
  exact ⟨h1.1, by omega, h2.1, h2.2⟩
/-- Not all of so many are had by so few. -/
theorem pigeon : ∀ (k : Nat) (L : List Slv), (∀ x : Int, 1 ≤ x → x ≤ k → used L x) → k ≤ L.length
  | 0, _, _ => by omega
  | k + 1, L, h => by
    obtain ⟨i, s, hi, hn⟩ := h (k + 1) (by omega) (by omega)
    have hl := lt_of_get hi
    have := pigeon k (L.eraseIdx i) fun x h1 h2 => by
      obtain ⟨j, t, hj, ht⟩ := h x h1 (by omega)
      have hji : ¬ j = i := fun e => by subst e; rw [hi] at hj; cases hj; omega
      by_cases hlt : j < i
      · exact ⟨j, t, by rw [List.getElem?_eraseIdx, if_pos hlt]; exact hj, ht⟩
      · exact ⟨j - 1, t, by rw [List.getElem?_eraseIdx, if_neg (by omega), show j - 1 + 1 = j from by omega]; exact hj, ht⟩
    rw [List.length_eraseIdx, if_pos hl] at this
    omega
theorem freev_not {L : List Slv} {most : Int} (hL : L.length ≤ 32) (hm : 64 ≤ most) : ¬ freev L most = none := by
  intro h
  have h3 : 64 ≤ lim most := by unfold lim; split <;> omega
  have := pigeon 64 L fun x h1 h2 => freeF_none h (by have := (lim_le most).1; omega) x h1 (by omega)
  omega

/-! ### What holds as names are given -/
structure Run (L0 L : List Slv) : Prop where
  good : GoodI L
  len : L.length = L0.length
  at_ : ∀ (i : Nat) (s t : Slv), L0[i]? = some s → L[i]? = some t → t.phys = s.phys ∧ (¬ s.name = 0 → t.name = s.name)
  fill : ∀ (i : Nat) (s t : Slv), L0[i]? = some s → L[i]? = some t → s.name = 0 → ∀ x, 1 ≤ x → x ≤ t.name → used L x
  ord : ∀ (i k : Nat) (si sk ti tk : Slv), L0[i]? = some si → L0[k]? = some sk → L[i]? = some ti → L[k]? = some tk → si.name = 0 → sk.name = 0 → 0 < ti.name → tk.phys < ti.phys → 0 < tk.name ∧ tk.name ≤ ti.name
theorem Run.start {L : List Slv} (h : GoodI L) : Run L L where
  good := h
  len := rfl
  at_ := fun i s t h1 h2 => by rw [h1] at h2; cases h2; exact ⟨rfl, fun _ => rfl⟩
  fill := fun i s t h1 h2 h0 x hx1 hx2 => by rw [h1] at h2; cases h2; omega
  ord := fun i k si sk ti tk h1 h2 h3 h4 h5 h6 h7 _ => by rw [h1] at h3; cases h3; omega
theorem set_at {L : List Slv} {k : Nat} {s v : Slv} (hk : L[k]? = some s) (i : Nat) : (L.set k v)[i]? = if i = k then some v else L[i]? := by
  rw [List.getElem?_set]
  have := lt_of_get hk
  by_cases h : i = k
  · subst h; simp [this]
  · rw [if_neg (fun e => h e.symm), if_neg h]
theorem Run.step {L0 L : List Slv} (h : Run L0 L) {k : Nat} {s : Slv} {n most : Int} (hat : atN L L.length = some k) (hs : L[k]? = some s) (hf : freev L most = some n) : Run L0 (L.set k ⟨s.phys, n⟩) := by
  obtain ⟨n1, n2, n3, n4⟩ := freev_some hf
  obtain ⟨s', hs', hs0⟩ := atN_name (Nat.le_refl _) hat
  rw [hs] at hs'; cases hs'
  have hG := set_at (v := ⟨s.phys, n⟩) hs
  have usd : ∀ x, used L x → ¬ x = 0 → used (L.set k ⟨s.phys, n⟩) x := fun x ⟨j, t, hj, ht⟩ h0 => by
    refine ⟨j, t, ?_, ht⟩
    rw [hG, if_neg ?_]
    · exact hj
    · intro e; subst e; rw [hs] at hj; cases hj; omega
  have hlt : ∀ (i : Nat) (si ti : Slv), L0[i]? = some si → L[i]? = some ti → si.name = 0 → ti.name < n := fun i si ti h1 h2 h3 => by
    rcases Int.lt_or_le ti.name n with h4 | h4
    · exact h4
    · exact absurd (h.fill i si ti h1 h2 h3 n n1 h4) n3
  refine ⟨⟨?_, ?_, ?_⟩, ?_, ?_, ?_, ?_⟩
  · rw [List.length_set]; exact h.good.len
  · intro i t ht
    rw [hG] at ht
    split at ht
    · cases ht; exact ⟨by simp only; omega, n2⟩
    · exact h.good.rng i t ht
  · intro i j a b hij ha hb
    rw [hG] at ha hb
    split at ha
    · rename_i hi
      subst hi
      rw [if_neg (by omega)] at hb
      cases ha
      have := h.good.dis i j s b hij hs hb
      refine ⟨this.1, fun e => ?_⟩
      exact absurd ⟨j, b, hb, e.symm⟩ n3
    · split at hb
      · rename_i hj
        subst hj
        cases hb
        have := h.good.dis i j a s hij ha hs
        refine ⟨this.1, fun e => ?_⟩
        exact absurd ⟨i, a, ha, e⟩ n3
      · exact h.good.dis i j a b hij ha hb
  · rw [List.length_set]; exact h.len
  · intro i a b ha hb
    rw [hG] at hb
    split at hb
    · rename_i hi
      subst hi
      cases hb
      have := h.at_ i a s ha hs
      exact ⟨this.1, fun h0 => by have := this.2 h0; omega⟩
    · exact h.at_ i a b ha hb
  · intro i a b ha hb h0 x hx1 hx2
    rw [hG] at hb
    split at hb
    · rename_i hi
      subst hi
      cases hb
      by_cases hxn : x = n
      · exact ⟨i, _, by rw [hG, if_pos rfl], hxn.symm⟩
      · simp only at hx2
        exact usd x (n4 x hx1 (by omega)) (by omega)
    · exact usd x (h.fill i a b ha hb h0 x hx1 hx2) (by omega)
  · intro i j si sj ti tj h1 h2 h3 h4 h5 h6 h7 h8
    rw [hG] at h3 h4
    split at h3
    · rename_i hi
      subst hi
      cases h3
      split at h4
      · rename_i hj
        cases h4
        simp only at h8; omega
      · simp only at h8 h7 ⊢
        have hl := hlt j sj tj h2 h4 h6
        by_cases h0 : tj.name = 0
        · have := atN_least (Nat.le_refl _) hat hs j tj (lt_of_get h4) h4 h0
          omega
        · have := (h.good.rng j tj h4).1
          omega
    · split at h4
      · rename_i hj
        subst hj
        cases h4
        have := h.ord i j si sj ti s h1 h2 h3 hs h5 h6 h7 h8
        omega
      · exact h.ord i j si sj ti tj h1 h2 h3 h4 h5 h6 h7 h8
theorem assign_run {most : Int} {L0 : List Slv} : ∀ (f : Nat) (L : List Slv), Run L0 L → cntZ L < f →
    Run L0 (assignF most f L).1 ∧ ((assignF most f L).2 = 0 ∨ (assignF most f L).2 = 11) ∧ ((assignF most f L).2 = 0 → ∀ (i : Nat) (s : Slv), (assignF most f L).1[i]? = some s → ¬ s.name = 0) ∧ (64 ≤ most → (assignF most f L).2 = 0)
  | 0, L, _, hc => by omega
  | f + 1, L, h, hc => by
    cases hat : atN L L.length with
    | none =>
      rw [assign_none hat]
      exact ⟨h, .inl rfl, fun _ i s hs => atN_none (Nat.le_refl _) hat i s (lt_of_get hs) hs, fun _ => rfl⟩
    | some k =>
      obtain ⟨s, hs, hs0⟩ := atN_name (Nat.le_refl _) hat
      cases hf : freev L most with
      | none =>
        rw [assign_full hat hf]
        exact ⟨h, .inr rfl, fun h => absurd h (show ¬ (11 : Int) = 0 from by decide), fun hm => absurd hf (freev_not h.good.len hm)⟩
      | some n =>
        rw [assign_next hat hf hs]
        have n1 := (freev_some hf).1
        exact assign_run f _ (h.step hat hs hf) (by have := cntZ_set (n := n) hs hs0 (by omega) s.phys; omega)
end Go.Proofs.Ytgikjbfpckjkoaa.BapN
