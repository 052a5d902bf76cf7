/- ifs: a store in memory; New, Denied, Get, own. -/
import Derived.Test.YtmkbpdlijfjgkaaDoorIfs1
import Derived.Test.YtmkbpdlijfjgkaaDoorErr3
namespace Go.Proofs.YtmkbpdlijfjgkaaDoor.Ifs
set_option linter.unusedSimpArgs false
set_option linter.unusedVariables false
open Go Go.AX Go.Proofs Ty Go.Proofs.YtmkbpdlijfjgkaaDoor.File Go.Proofs.YtmkbpdlijfjgkaaDoor.Err
set_option maxHeartbeats 4000000
set_option maxRecDepth 10000

theorem lput_enc {a b c d : Value} (r : Rc) : lput [a, b, c, d] 0 (enc r) = enc r := Eq.trans rfl rfl
theorem take_enc (r : Rc) : (enc r).take 4 = enc r := Eq.trans rfl rfl
structure MF where
  n : Int
  p : Int
  blk : Nat
  bs : Nat
  R : List Rc
def MF.nf (m : MF) : Nf := (m.n, m.p, m.R)
def MF.val (m : MF) : Value := fv m.p (some ⟨m.blk, 0, none⟩) m.R.length m.R.length
def MF.ent (m : MF) : Value × Value := (.int .i64 m.n, m.val)
structure StIn (H : AH) (b bm : Nat) (ms : List MF) (den : Int) : Prop where
  top : H.find b = some (.cells [.map (some bm), .int .i64 den] 66 2)
  map : H.find bm = some (.amap (ms.map MF.ent))
  rows : ∀ m ∈ ms, H.find m.blk = some (.cells (m.R.map enc).flatten 32 m.bs) ∧ m.R.length * 4 ≤ m.bs
  nd : (ms.map (·.blk)).Nodup
  kd : Kd (ms.map MF.nf)
def ftOf (b bm : Nat) (ms : List MF) (x : Nat) : Prop := x = b ∨ x = bm ∨ ∃ m ∈ ms, x = m.blk
def StAt (H : AH) (b : Nat) (X : List Nf) (den : Int) (ft : Nat → Prop) : Prop := ∃ bm ms, StIn H b bm ms den ∧ ms.map MF.nf = X ∧ ∀ x, ft x ↔ ftOf b bm ms x
theorem StIn.keep {H H' : AH} {b bm : Nat} {ms : List MF} {den : Int} {ex : Nat → Prop} (h : StIn H b bm ms den) (hK : Keep H H' ex) (hx : ∀ x, ftOf b bm ms x → ¬ ex x) : StIn H' b bm ms den :=
  ⟨hK.find (hx _ (.inl rfl)) h.top, hK.find (hx _ (.inr (.inl rfl))) h.map, fun m hm => ⟨hK.find (hx _ (.inr (.inr ⟨m, hm, rfl⟩))) (h.rows m hm).1, (h.rows m hm).2⟩, h.nd, h.kd⟩
theorem StAt.keep {H H' : AH} {b : Nat} {X : List Nf} {den : Int} {ft ex : Nat → Prop} (h : StAt H b X den ft) (hK : Keep H H' ex) (hx : ∀ x, ft x → ¬ ex x) : StAt H' b X den ft := by
  obtain ⟨bm, ms, h1, h2, h3⟩ := h
  exact ⟨bm, ms, h1.keep hK fun x hf => hx x ((h3 x).2 hf), h2, h3⟩
theorem StAt.find {H : AH} {b : Nat} {X : List Nf} {den : Int} {ft : Nat → Prop} (h : StAt H b X den ft) : ∃ bm, H.find b = some (.cells [.map (some bm), .int .i64 den] 66 2) := by
  obtain ⟨bm, ms, h1, _⟩ := h
  exact ⟨bm, h1.top⟩
theorem StIn.known {H : AH} {b bm : Nat} {ms : List MF} {den : Int} (h : StIn H b bm ms den) {x : Nat} (hx : ftOf b bm ms x) : (H.find x).isSome := by
  rcases hx with rfl | rfl | ⟨m, hm, rfl⟩
  · rw [h.top]; rfl
  · rw [h.map]; rfl
  · rw [(h.rows m hm).1]; rfl
theorem StAt.known {H : AH} {b : Nat} {X : List Nf} {den : Int} {ft : Nat → Prop} (h : StAt H b X den ft) {x : Nat} (hx : ft x) : (H.find x).isSome := by
  obtain ⟨bm, ms, h1, _, h3⟩ := h
  exact h1.known ((h3 x).1 hx)
theorem StAt.fresh {H : AH} {b : Nat} {X : List Nf} {den : Int} {ft : Nat → Prop} (h : StAt H b X den ft) {x : Nat} (hf : Fresh H x) : ¬ ft x := fun hx => by
  have := h.known hx; rw [hf.2] at this; cases this
theorem StAt.self {H : AH} {b : Nat} {X : List Nf} {den : Int} {ft : Nat → Prop} (h : StAt H b X den ft) : ft b := by
  obtain ⟨bm, ms, _, _, h3⟩ := h
  exact (h3 b).2 (.inl rfl)
theorem StIn.ne1 {H : AH} {b bm : Nat} {ms : List MF} {den : Int} (h : StIn H b bm ms den) : b ≠ bm := fun e => by
  have := h.top; rw [e, h.map] at this; cases this
theorem StIn.ne2 {H : AH} {b bm : Nat} {ms : List MF} {den : Int} (h : StIn H b bm ms den) {m : MF} (hm : m ∈ ms) : m.blk ≠ b := fun e => by
  have := (h.rows m hm).1; rw [e, h.top] at this; simp only [Option.some.injEq, ABlk.cells.injEq] at this; exact absurd this.2.1 (by decide)
theorem StIn.ne3 {H : AH} {b bm : Nat} {ms : List MF} {den : Int} (h : StIn H b bm ms den) {m : MF} (hm : m ∈ ms) : m.blk ≠ bm := fun e => by
  have := (h.rows m hm).1; rw [e, h.map] at this; cases this
theorem StIn.slc {H : AH} {b bm : Nat} {ms : List MF} {den : Int} (h : StIn H b bm ms den) {m : MF} (hm : m ∈ ms) (hl : m.R.length < 9223372036854775808) : SlcIn H 4 (some ⟨m.blk, 0, none⟩) m.R.length (m.R.map enc) :=
  SlcIn.of_find (h.rows m hm).1 (rows4 m.R) (by simp) (by simpa using hl)

/-! ### Looking a number up -/
def fnd (n : Int) : List MF → Nat → Option (Nat × Value)
  | [], _ => none
  | m :: l, i => if m.n = n then some (i, m.val) else fnd n l (i + 1)
theorem mlk_ms (n : Int) : ∀ (ms : List MF) (i : Nat), mlk (.int .i64) (.int .i64 n) (ms.map MF.ent) i = some (fnd n ms i)
  | [], _ => rfl
  | m :: l, i => by
    have ih := mlk_ms n l (i + 1)
    rw [fnd]
    by_cases h : m.n = n
    · simp [mlk, MF.ent, Instr.sameNow, h]
    · have hb : (n == m.n) = false := by simpa using fun e => h e.symm
      have hb2 : (m.n == n) = false := by simpa using h
      simp only [List.map_cons, mlk, MF.ent, Instr.sameNow, hb, hb2, if_neg h]
      exact ih
theorem fnd_none {n : Int} : ∀ {ms : List MF} {i : Nat}, fnd n ms i = none ↔ lk n (ms.map MF.nf) = none
  | [], _ => by simp [fnd, lk]
  | m :: l, i => by
    rw [fnd, List.map_cons, lk]
    show _ ↔ (if m.n = n then _ else _) = none
    by_cases h : m.n = n
    · simp [h]
    · simp only [if_neg h]; exact fnd_none
theorem fnd_some {n : Int} : ∀ {ms : List MF} {i j : Nat} {v : Value}, fnd n ms i = some (j, v) → ∃ k m, j = i + k ∧ ms[k]? = some m ∧ m.n = n ∧ v = m.val ∧ lk n (ms.map MF.nf) = some (m.p, m.R)
  | m :: l, i, j, v, h => by
    rw [fnd] at h
    by_cases e : m.n = n
    · rw [if_pos e] at h; cases h
      exact ⟨0, m, rfl, rfl, e, rfl, by rw [List.map_cons, lk]; exact if_pos e⟩
    · rw [if_neg e] at h
      obtain ⟨k, m', h1, h2, h3, h4, h5⟩ := fnd_some h
      refine ⟨k + 1, m', by omega, h2, h3, h4, ?_⟩
      rw [List.map_cons, lk]
      exact (if_neg e).trans h5
/-- The two ways of a look-up. -/
theorem StIn.at_ {H : AH} {b bm : Nat} {ms : List MF} {den : Int} (_h : StIn H b bm ms den) (n : Int) :
    (mlk (.int .i64) (.int .i64 n) (ms.map MF.ent) 0 = some none ∧ lk n (ms.map MF.nf) = none) ∨
    ∃ k m, mlk (.int .i64) (.int .i64 n) (ms.map MF.ent) 0 = some (some (k, m.val)) ∧ ms[k]? = some m ∧ m.n = n ∧ lk n (ms.map MF.nf) = some (m.p, m.R) := by
  have hm := mlk_ms n ms 0
  cases hf : fnd n ms 0 with
  | none => rw [hf] at hm; exact .inl ⟨hm, fnd_none.1 hf⟩
  | some x =>
    obtain ⟨j, v⟩ := x
    obtain ⟨k, m, h1, h2, h3, rfl, h5⟩ := fnd_some hf
    rw [hf, h1, Nat.zero_add] at hm
    exact .inr ⟨k, m, hm, h2, h3, h5⟩

/-! ### The simple ones -/
theorem New_c (H : AH) : ACalls Tryd.prog 7 #[] H (fun v H' => ∃ b ft, v = .pointer (some ⟨b, 0, none⟩) ∧ StAt H' b [] 0 ft ∧ Keep H H' (fun _ => False) ∧ ∀ x, ft x → Fresh H x) := by
  refine ACalls.enter2 Tryd.func7 rfl Tryd.ntmps7 Tryd.results7 (by simp) ?_; simp (dsimp := false) (maxSteps := 4000000) only [go_sem, ↓reduceIte, Nat.reduceEqDiff, Nat.reduceLT, Nat.reduceLeDiff, Nat.reduceAdd, Nat.reduceMul, Nat.reduceSub, reduceCtorEq, Int.reduceToNat, Int.reduceLT, Int.reduceLE, Int.reduceEq, Int.reduceNe, Int.reduceBEq, Nat.reduceBEq, Int.reduceBNe, Nat.reduceBNe, Int.reduceAdd, Int.reduceSub, Int.reduceMul, Int.reduceNeg]
  refine AllB.mk fun bm h_bm => ?_
  simp (dsimp := false) (maxSteps := 4000000) only [go_sem, ↓reduceIte, Nat.reduceEqDiff, Nat.reduceLT, Nat.reduceLeDiff, Nat.reduceAdd, Nat.reduceMul, Nat.reduceSub, reduceCtorEq, Int.reduceToNat, Int.reduceLT, Int.reduceLE, Int.reduceEq, Int.reduceNe, Int.reduceBEq, Nat.reduceBEq, Int.reduceBNe, Nat.reduceBNe, Int.reduceAdd, Int.reduceSub, Int.reduceMul, Int.reduceNeg]
  refine AllB.mk fun b h_b => ?_
  simp (dsimp := false) (maxSteps := 4000000) only [go_sem, ↓reduceIte, Nat.reduceEqDiff, Nat.reduceLT, Nat.reduceLeDiff, Nat.reduceAdd, Nat.reduceMul, Nat.reduceSub, reduceCtorEq, Int.reduceToNat, Int.reduceLT, Int.reduceLE, Int.reduceEq, Int.reduceNe, Int.reduceBEq, Nat.reduceBEq, Int.reduceBNe, Nat.reduceBNe, Int.reduceAdd, Int.reduceSub, Int.reduceMul, Int.reduceNeg]
  have hne : b ≠ bm := h_b.ne_find (find_add_self _ _ _)
  refine ⟨_, AH.le_refl _, b, ftOf b bm [], rfl, ⟨bm, [], ⟨?_, ?_, by simp, by simp, by simp [Kd]⟩, rfl, fun _ => Iff.rfl⟩, (Keep.refl.nw h_bm).nw h_b, ?_⟩
  · rw [find_add_self]
  · rw [find_add_ne _ hne, find_add_self]; rfl
  · rintro x (rfl | rfl | ⟨_, h, _⟩)
    · exact (Keep.refl.nw h_bm).fr h_b
    · exact h_bm
    · cases h
theorem Denied_nil (H : AH) : ACalls Tryd.prog 17 #[.pointer none] H (fun v H' => v = .int .i64 0 ∧ H = H') := by
  refine ACalls.enter2 Tryd.func17 rfl Tryd.ntmps17 Tryd.results17 (by simp) ?_; simp (dsimp := false) (maxSteps := 4000000) only [go_sem, ↓reduceIte, Nat.reduceEqDiff, Nat.reduceLT, Nat.reduceLeDiff, Nat.reduceAdd, Nat.reduceMul, Nat.reduceSub, reduceCtorEq, Int.reduceToNat, Int.reduceLT, Int.reduceLE, Int.reduceEq, Int.reduceNe, Int.reduceBEq, Nat.reduceBEq, Int.reduceBNe, Nat.reduceBNe, Int.reduceAdd, Int.reduceSub, Int.reduceMul, Int.reduceNeg]
  exact ⟨H, AH.le_refl _, rfl⟩
theorem Denied_c {H : AH} {b : Nat} {X : List Nf} {den : Int} {ft : Nat → Prop} (h : StAt H b X den ft) : ACalls Tryd.prog 17 #[.pointer (some ⟨b, 0, none⟩)] H (fun v H' => v = .int .i64 den ∧ H = H') := by
  obtain ⟨bm, ht⟩ := h.find
  have r1 : H.rd ⟨b, 1, none⟩ = some (.int .i64 den) := by rw [rd_find ht]; rfl
  refine ACalls.enter2 Tryd.func17 rfl Tryd.ntmps17 Tryd.results17 (by simp) ?_; simp (dsimp := false) (maxSteps := 4000000) only [go_sem, ↓reduceIte, Nat.reduceEqDiff, Nat.reduceLT, Nat.reduceLeDiff, Nat.reduceAdd, Nat.reduceMul, Nat.reduceSub, reduceCtorEq, Int.reduceToNat, Int.reduceLT, Int.reduceLE, Int.reduceEq, Int.reduceNe, Int.reduceBEq, Nat.reduceBEq, Int.reduceBNe, Nat.reduceBNe, Int.reduceAdd, Int.reduceSub, Int.reduceMul, Int.reduceNeg]
  simp (dsimp := false) (maxSteps := 4000000) only [r1, go_sem, ↓reduceIte, Nat.reduceEqDiff, Nat.reduceLT, Nat.reduceLeDiff, Nat.reduceAdd, Nat.reduceMul, Nat.reduceSub, reduceCtorEq, Int.reduceToNat, Int.reduceLT, Int.reduceLE, Int.reduceEq, Int.reduceNe, Int.reduceBEq, Nat.reduceBEq, Int.reduceBNe, Nat.reduceBNe, Int.reduceAdd, Int.reduceSub, Int.reduceMul, Int.reduceNeg]
  exact ⟨H, AH.le_refl _, rfl⟩
def getV (o : Option Rc) : Value := match o with | none => .tuple #[.agg (enc zr).toArray, .bool false] | some r => .tuple #[.agg (enc r).toArray, .bool true]
theorem Get_nil (n rec : Int) (H : AH) : ACalls Tryd.prog 15 #[.pointer none, .int .i64 n, .int .i64 rec] H (fun v H' => v = getV none ∧ H = H') := by
  refine ACalls.enter2 Tryd.func15 rfl Tryd.ntmps15 Tryd.results15 (by simp) ?_; simp (dsimp := false) (maxSteps := 4000000) only [go_sem, ↓reduceIte, Nat.reduceEqDiff, Nat.reduceLT, Nat.reduceLeDiff, Nat.reduceAdd, Nat.reduceMul, Nat.reduceSub, reduceCtorEq, Int.reduceToNat, Int.reduceLT, Int.reduceLE, Int.reduceEq, Int.reduceNe, Int.reduceBEq, Nat.reduceBEq, Int.reduceBNe, Nat.reduceBNe, Int.reduceAdd, Int.reduceSub, Int.reduceMul, Int.reduceNeg]
  refine AllB.mk fun b1 h_b1 => ?_; have hn_b1 := h_b1; (try simp only [fresh_add, fresh_set, ne_eq] at hn_b1); have hr_b1 := hn_b1; (try simp only [@eq_comm Nat b1] at hr_b1); simp (dsimp := false) (maxSteps := 4000000) only [hn_b1, hr_b1, go_sem, ↓reduceIte, Nat.reduceEqDiff, Nat.reduceLT, Nat.reduceLeDiff, Nat.reduceAdd, Nat.reduceMul, Nat.reduceSub, reduceCtorEq, Int.reduceToNat, Int.reduceLT, Int.reduceLE, Int.reduceEq, Int.reduceNe, Int.reduceBEq, Nat.reduceBEq, Int.reduceBNe, Nat.reduceBNe, Int.reduceAdd, Int.reduceSub, Int.reduceMul, Int.reduceNeg]
  exact ⟨H, (AH.le_add (AH.le_refl _) ((by simp only [fresh_add, fresh_set, ne_eq, hn_b1, not_false_eq_true, and_self] : Fresh _ b1).2)), (by first | exact ⟨rfl, rfl⟩ | rfl)⟩
theorem getW_eq {X : List Nf} {n rec : Int} {f : Fl} (h : lk n X = some f) : getW X n rec = if rec < 0 then none else f.2[rec.toNat]? := by rw [getW, h]; rfl
theorem Get_c {H : AH} {b : Nat} {X : List Nf} {den : Int} {ft : Nat → Prop} (h : StAt H b X den ft) (hX : OkX X) (n rec : Int) :
    ACalls Tryd.prog 15 #[.pointer (some ⟨b, 0, none⟩), .int .i64 n, .int .i64 rec] H (fun v H' => v = getV (getW X n rec) ∧ H = H') := by
  obtain ⟨bm, ms, h1, rfl, _⟩ := h
  have r0 : H.rd ⟨b, 0, none⟩ = some (.map (some bm)) := by rw [rd_find h1.top]; rfl
  have hmp : H.mp bm = some (ms.map MF.ent) := by rw [AH.mp, h1.map]
  refine ACalls.enter2 Tryd.func15 rfl Tryd.ntmps15 Tryd.results15 (by simp) ?_; simp (dsimp := false) (maxSteps := 4000000) only [go_sem, ↓reduceIte, Nat.reduceEqDiff, Nat.reduceLT, Nat.reduceLeDiff, Nat.reduceAdd, Nat.reduceMul, Nat.reduceSub, reduceCtorEq, Int.reduceToNat, Int.reduceLT, Int.reduceLE, Int.reduceEq, Int.reduceNe, Int.reduceBEq, Nat.reduceBEq, Int.reduceBNe, Nat.reduceBNe, Int.reduceAdd, Int.reduceSub, Int.reduceMul, Int.reduceNeg]
  refine AllB.mk fun b1 h_b1 => ?_; have hn_b1 := h_b1; (try simp only [fresh_add, fresh_set, ne_eq] at hn_b1); have hr_b1 := hn_b1; (try simp only [@eq_comm Nat b1] at hr_b1); simp (dsimp := false) (maxSteps := 4000000) only [hn_b1, hr_b1, go_sem, ↓reduceIte, Nat.reduceEqDiff, Nat.reduceLT, Nat.reduceLeDiff, Nat.reduceAdd, Nat.reduceMul, Nat.reduceSub, reduceCtorEq, Int.reduceToNat, Int.reduceLT, Int.reduceLE, Int.reduceEq, Int.reduceNe, Int.reduceBEq, Nat.reduceBEq, Int.reduceBNe, Nat.reduceBNe, Int.reduceAdd, Int.reduceSub, Int.reduceMul, Int.reduceNeg]
  have n1 : ¬ b1 = b := h_b1.ne_find h1.top
  have n2 : ¬ b1 = bm := h_b1.ne_find h1.map
  rcases h1.at_ n with ⟨hm, hl⟩ | ⟨k, m, hm, hk, hn, hl⟩
  · have hg : getW (ms.map MF.nf) n rec = none := by rw [getW, hl]; rfl
    rw [hg]
    
    simp (dsimp := false) (maxSteps := 4000000) only [r0, n1, n2, hmp, hm, hn_b1, hr_b1, go_sem, ↓reduceIte, Nat.reduceEqDiff, Nat.reduceLT, Nat.reduceLeDiff, Nat.reduceAdd, Nat.reduceMul, Nat.reduceSub, reduceCtorEq, Int.reduceToNat, Int.reduceLT, Int.reduceLE, Int.reduceEq, Int.reduceNe, Int.reduceBEq, Nat.reduceBEq, Int.reduceBNe, Nat.reduceBNe, Int.reduceAdd, Int.reduceSub, Int.reduceMul, Int.reduceNeg]
    refine AllB.mk fun b2 h_b2 => ?_; have hn_b2 := h_b2; (try simp only [fresh_add, fresh_set, ne_eq] at hn_b2); have hr_b2 := hn_b2; (try simp only [@eq_comm Nat b2] at hr_b2); simp (dsimp := false) (maxSteps := 4000000) only [hn_b1, hr_b1, hn_b2, hr_b2, go_sem, ↓reduceIte, Nat.reduceEqDiff, Nat.reduceLT, Nat.reduceLeDiff, Nat.reduceAdd, Nat.reduceMul, Nat.reduceSub, reduceCtorEq, Int.reduceToNat, Int.reduceLT, Int.reduceLE, Int.reduceEq, Int.reduceNe, Int.reduceBEq, Nat.reduceBEq, Int.reduceBNe, Nat.reduceBNe, Int.reduceAdd, Int.reduceSub, Int.reduceMul, Int.reduceNeg]
    by_cases hr : rec < 0
    · simp (dsimp := false) (maxSteps := 4000000) only [hr, hn_b1, hr_b1, hn_b2, hr_b2, go_sem, ↓reduceIte, Nat.reduceEqDiff, Nat.reduceLT, Nat.reduceLeDiff, Nat.reduceAdd, Nat.reduceMul, Nat.reduceSub, reduceCtorEq, Int.reduceToNat, Int.reduceLT, Int.reduceLE, Int.reduceEq, Int.reduceNe, Int.reduceBEq, Nat.reduceBEq, Int.reduceBNe, Nat.reduceBNe, Int.reduceAdd, Int.reduceSub, Int.reduceMul, Int.reduceNeg]
      exact ⟨H, (AH.le_add (AH.le_add (AH.le_refl _) ((by simp only [fresh_add, fresh_set, ne_eq, hn_b1, not_false_eq_true, and_self] : Fresh _ b1).2)) ((by simp only [fresh_add, fresh_set, ne_eq, hn_b2, not_false_eq_true, and_self] : Fresh _ b2).2)), (by first | exact ⟨rfl, rfl⟩ | rfl)⟩
    · have hr2 : (0 : Int) ≤ rec := by omega
      simp (dsimp := false) (maxSteps := 4000000) only [hr, hr2, hn_b1, hr_b1, hn_b2, hr_b2, go_sem, ↓reduceIte, Nat.reduceEqDiff, Nat.reduceLT, Nat.reduceLeDiff, Nat.reduceAdd, Nat.reduceMul, Nat.reduceSub, reduceCtorEq, Int.reduceToNat, Int.reduceLT, Int.reduceLE, Int.reduceEq, Int.reduceNe, Int.reduceBEq, Nat.reduceBEq, Int.reduceBNe, Nat.reduceBNe, Int.reduceAdd, Int.reduceSub, Int.reduceMul, Int.reduceNeg]
      exact ⟨H, (AH.le_add (AH.le_add (AH.le_refl _) ((by simp only [fresh_add, fresh_set, ne_eq, hn_b1, not_false_eq_true, and_self] : Fresh _ b1).2)) ((by simp only [fresh_add, fresh_set, ne_eq, hn_b2, not_false_eq_true, and_self] : Fresh _ b2).2)), (by first | exact ⟨rfl, rfl⟩ | rfl)⟩
    
  · rw [getW_eq hl]
    obtain ⟨_, hgd, _⟩ := hX.lk hl
    obtain ⟨hl1, hl2⟩ := goodF_len hgd
    dsimp only at hl1 hl2
    have hmem := List.mem_of_getElem? hk
    have n3 : ¬ b1 = m.blk := h_b1.ne_find (h1.rows m hmem).1
    have hs := h1.slc hmem (by omega)
    unfold MF.val fv at hm
    
    simp (dsimp := false) (maxSteps := 4000000) only [r0, n1, n2, hmp, hm, hn_b1, hr_b1, go_sem, ↓reduceIte, Nat.reduceEqDiff, Nat.reduceLT, Nat.reduceLeDiff, Nat.reduceAdd, Nat.reduceMul, Nat.reduceSub, reduceCtorEq, Int.reduceToNat, Int.reduceLT, Int.reduceLE, Int.reduceEq, Int.reduceNe, Int.reduceBEq, Nat.reduceBEq, Int.reduceBNe, Nat.reduceBNe, Int.reduceAdd, Int.reduceSub, Int.reduceMul, Int.reduceNeg]
    refine AllB.mk fun b2 h_b2 => ?_; have hn_b2 := h_b2; (try simp only [fresh_add, fresh_set, ne_eq] at hn_b2); have hr_b2 := hn_b2; (try simp only [@eq_comm Nat b2] at hr_b2); simp (dsimp := false) (maxSteps := 4000000) only [hn_b1, hr_b1, hn_b2, hr_b2, go_sem, ↓reduceIte, Nat.reduceEqDiff, Nat.reduceLT, Nat.reduceLeDiff, Nat.reduceAdd, Nat.reduceMul, Nat.reduceSub, reduceCtorEq, Int.reduceToNat, Int.reduceLT, Int.reduceLE, Int.reduceEq, Int.reduceNe, Int.reduceBEq, Nat.reduceBEq, Int.reduceBNe, Nat.reduceBNe, Int.reduceAdd, Int.reduceSub, Int.reduceMul, Int.reduceNeg]
    have n4 : ¬ b2 = m.blk := hn_b2.2.ne_find (h1.rows m hmem).1
    by_cases hr : rec < 0
    · simp (dsimp := false) (maxSteps := 4000000) only [hr, hn_b1, hr_b1, hn_b2, hr_b2, go_sem, ↓reduceIte, Nat.reduceEqDiff, Nat.reduceLT, Nat.reduceLeDiff, Nat.reduceAdd, Nat.reduceMul, Nat.reduceSub, reduceCtorEq, Int.reduceToNat, Int.reduceLT, Int.reduceLE, Int.reduceEq, Int.reduceNe, Int.reduceBEq, Nat.reduceBEq, Int.reduceBNe, Nat.reduceBNe, Int.reduceAdd, Int.reduceSub, Int.reduceMul, Int.reduceNeg]
      exact ⟨H, (AH.le_add (AH.le_add (AH.le_refl _) ((by simp only [fresh_add, fresh_set, ne_eq, hn_b1, not_false_eq_true, and_self] : Fresh _ b1).2)) ((by simp only [fresh_add, fresh_set, ne_eq, hn_b2, not_false_eq_true, and_self] : Fresh _ b2).2)), (by first | exact ⟨rfl, rfl⟩ | rfl)⟩
    by_cases hr2 : (m.R.length : Int) ≤ rec
    · have e : m.R[rec.toNat]? = none := List.getElem?_eq_none (by omega)
      simp (dsimp := false) (maxSteps := 4000000) only [hr, hr2, hn_b1, hr_b1, hn_b2, hr_b2, go_sem, ↓reduceIte, Nat.reduceEqDiff, Nat.reduceLT, Nat.reduceLeDiff, Nat.reduceAdd, Nat.reduceMul, Nat.reduceSub, reduceCtorEq, Int.reduceToNat, Int.reduceLT, Int.reduceLE, Int.reduceEq, Int.reduceNe, Int.reduceBEq, Nat.reduceBEq, Int.reduceBNe, Nat.reduceBNe, Int.reduceAdd, Int.reduceSub, Int.reduceMul, Int.reduceNeg]
      rw [e]
      exact ⟨H, (AH.le_add (AH.le_add (AH.le_refl _) ((by simp only [fresh_add, fresh_set, ne_eq, hn_b1, not_false_eq_true, and_self] : Fresh _ b1).2)) ((by simp only [fresh_add, fresh_set, ne_eq, hn_b2, not_false_eq_true, and_self] : Fresh _ b2).2)), (by first | exact ⟨rfl, rfl⟩ | rfl)⟩
    obtain ⟨i, rfl⟩ : ∃ i : Nat, rec = i := ⟨rec.toNat, by omega⟩
    obtain ⟨r, hri⟩ := get_some (l := m.R) (i := i) (by omega)
    obtain ⟨b_, o, he, hrow, _⟩ := hs.get (Go.AX.map_get (f := enc) hri)
    cases he
    rw [Nat.zero_add] at hrow
    have hlt : (i : Int) < (m.R.length : Int) := by omega
    have h0 : (0 : Int) ≤ (i : Int) := by omega
    simp (dsimp := false) (maxSteps := 4000000) only [hr, hr2, hrow, hlt, h0, n3, n4, enc_len, enc_scal, lput_enc, take_enc, hn_b1, hr_b1, hn_b2, hr_b2, go_sem, ↓reduceIte, Nat.reduceEqDiff, Nat.reduceLT, Nat.reduceLeDiff, Nat.reduceAdd, Nat.reduceMul, Nat.reduceSub, reduceCtorEq, Int.reduceToNat, Int.reduceLT, Int.reduceLE, Int.reduceEq, Int.reduceNe, Int.reduceBEq, Nat.reduceBEq, Int.reduceBNe, Nat.reduceBNe, Int.reduceAdd, Int.reduceSub, Int.reduceMul, Int.reduceNeg]
    rw [hri]
    exact ⟨H, (AH.le_add (AH.le_add (AH.le_refl _) ((by simp only [fresh_add, fresh_set, ne_eq, hn_b1, not_false_eq_true, and_self] : Fresh _ b1).2)) ((by simp only [fresh_add, fresh_set, ne_eq, hn_b2, not_false_eq_true, and_self] : Fresh _ b2).2)), (by first | exact ⟨rfl, rfl⟩ | rfl)⟩
    
end Go.Proofs.YtmkbpdlijfjgkaaDoor.Ifs
