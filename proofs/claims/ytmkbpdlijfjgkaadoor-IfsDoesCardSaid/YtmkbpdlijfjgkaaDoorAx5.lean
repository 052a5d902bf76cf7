/- Code and calls over the abstract heap: a condition that is computed from the code, and is sound. -/
import Derived.Test.YtmkbpdlijfjgkaaDoorAx4
namespace Go.AX
set_option linter.unusedSimpArgs false
set_option linter.unusedVariables false
open Go Go.RowKit

/-! ### Code -/
def AQ (E : Nat → Option Obj) (n : Nat) (Q : Exit → Fr → AH → Prop) (e : Exit) (a : Act) (w : World) : Prop := ∃ fr H, FrOk n fr a ∧ Sat E H w ∧ Q e fr H

def AWp (P : Program) (n : Nat) (c : Code) (Q : Exit → Fr → AH → Prop) (fr : Fr) (H : AH) (_t : Lk (c, Q, fr, H) := .mk) : Prop := ∀ E a w, FrOk n fr a → Sat E H w → c.wp P (AQ E n Q) a w

def aseq (K : Fr → AH → Prop) (Q : Exit → Fr → AH → Prop) : Exit → Fr → AH → Prop
  | .normal => K
  | e => Q e

def ablock (id : Nat) (Q : Exit → Fr → AH → Prop) : Exit → Fr → AH → Prop
  | .exit id' => fun fr H => if id' = id then Q .normal fr H else Q (.exit id') fr H
  | e => Q e

def acond (v : Value) (A B : Prop) (_t : Lk (A, B) := .mk) : Prop :=
  match v with
  | .bool t => (t = true → A) ∧ (t = false → B)
  | _ => False

def avc (P : Program) (n : Nat) : Code → (Exit → Fr → AH → Prop) → Fr → AH → Prop
  | .skip, Q, fr, H => Q .normal fr H
  | .label _, Q, fr, H => Q .normal fr H
  | .exit id, Q, fr, H => Q (.exit id) fr H
  | .ret, Q, fr, H => Q .ret fr H
  | .seq a b, Q, fr, H => avc P n a (aseq (avc P n b Q) Q) fr H
  | .cond c x y, Q, fr, H => kn1 fr c = true ∧ acond (evd fr c) (avc P n x Q fr H) (avc P n y Q fr H)
  | .block id c, Q, fr, H => avc P n c (ablock id Q) fr H
  | .region id ops draw, Q, fr, H => if draw then AWp P n (.region id ops true) Q fr H else vops false P n (ops.toList.map (·.dst)) ops.toList fr H (Q .normal)
  | c, Q, fr, H => AWp P n c Q fr H

theorem AWp.mono {P : Program} {n : Nat} {c : Code} {Q Q' : Exit → Fr → AH → Prop} {fr : Fr} {H : AH} (h : AWp P n c Q fr H) (hq : ∀ e fr H, Q e fr H → Q' e fr H) : AWp P n c Q' fr H :=
  fun E a w hf hs => wp_mono (h E a w hf hs) fun _ _ _ ⟨fr, H, h1, h2, h3⟩ => ⟨fr, H, h1, h2, hq _ _ _ h3⟩

theorem avc_sound (P : Program) (n : Nat) (c : Code) : ∀ (Q : Exit → Fr → AH → Prop) (fr : Fr) (H : AH), avc P n c Q fr H → AWp P n c Q fr H := by
  induction c with
  | skip => exact fun Q fr H h E a w hf hs => wp_skip ⟨fr, H, hf, hs, h⟩
  | label l => exact fun Q fr H h E a w hf hs => wp_label ⟨fr, H, hf, hs, h⟩
  | exit id => exact fun Q fr H h E a w hf hs => wp_exit ⟨fr, H, hf, hs, h⟩
  | ret => exact fun Q fr H h E a w hf hs => wp_ret ⟨fr, H, hf, hs, h⟩
  | seq x y ihx ihy =>
    intro Q fr H h E a w hf hs
    refine wp_seq (wp_mono (ihx _ _ _ h E a w hf hs) ?_)
    rintro e a' w' ⟨fr', H', h1, h2, h3⟩
    cases e with
    | normal => exact ihy _ _ _ h3 E a' w' h1 h2
    | _ => exact ⟨fr', H', h1, h2, h3⟩
  | cond c x y ihx ihy =>
    intro Q fr H h E a w hf hs
    obtain ⟨hk, h⟩ := h
    have he := hf.eval hk
    unfold acond at h
    split at h
    · rename_i t ht
      rw [ht] at he
      exact wp_cond_split he (fun e => ihx _ _ _ (h.1 e) E a w hf hs) (fun e => ihy _ _ _ (h.2 e) E a w hf hs)
    · exact h.elim
  | block id c ih =>
    intro Q fr H h E a w hf hs
    refine wp_block (wp_mono (ih _ _ _ h E a w hf hs) ?_)
    rintro e a' w' ⟨fr', H', h1, h2, h3⟩
    cases e with
    | exit id' =>
      simp only [ablock] at h3
      simp only [Exit.inBlock]
      split at h3
      · rename_i e; simp only [e, if_true]; exact ⟨fr', H', h1, h2, h3⟩
      · rename_i e; simp only [e, if_false]; exact ⟨fr', H', h1, h2, h3⟩
    | _ => exact ⟨fr', H', h1, h2, h3⟩
  | region id ops draw =>
    intro Q fr H h
    simp only [avc] at h
    cases draw with
    | true => simpa using h
    | false =>
      simp only [Bool.false_eq_true, if_false] at h
      intro E a w hf hs
      exact wp_region_list (aops_sound (Q := AQ E n Q) (fun fr H a w h1 h2 h3 => ⟨fr, H, h1, h2, h3⟩) _ _ _ _ _ (vops_sound _ _ _ h) hf hs)
  | _ => exact fun Q fr H h => h

def FrLe (f' f : Fr) : Prop := ∀ t v, alk t f' = some v → alk t f = some v

theorem FrLe.refl (f : Fr) : FrLe f f := fun _ _ h => h

theorem FrOk.mono {n : Nat} {fr fr' : Fr} {a : Act} (h : FrOk n fr a) (hl : FrLe fr' fr) : FrOk n fr' a := ⟨h.defers, h.size, fun t v x => h.vals t v (hl t v x)⟩

/-- The end of a loop's round: some state that is known in part meets the relation again, and the measure has gone down. -/
def around {ι : Type} (I : ι → Fr → AH → Prop) (μ : ι → Nat) (i : ι) (Q : Exit → Fr → AH → Prop) : Exit → Fr → AH → Prop
  | .normal => fun fr H => ∃ i' fr' H', FrLe fr' fr ∧ H'.le H ∧ I i' fr' H' ∧ μ i' < μ i
  | e => Q e

theorem AWp.loop {P : Program} {n : Nat} {c : Code} {Q : Exit → Fr → AH → Prop} {fr : Fr} {H : AH} {ι : Type} (I : ι → Fr → AH → Prop) (μ : ι → Nat) (i0 : ι)
    (h0 : ∃ fr' H', FrLe fr' fr ∧ H'.le H ∧ I i0 fr' H') (round : ∀ i fr H, I i fr H → avc P n c (around I μ i Q) fr H) : AWp P n (.loop c) Q fr H := by
  obtain ⟨fr0, H0, hfl, hhl, hI0⟩ := h0
  intro E a w hf hs
  have key : ∀ m i fr H a w, μ i = m → I i fr H → FrOk n fr a → Sat E H w → ∀ (b : Frame) (k : List Item) (cs : List Frame),
      ∃ e a' w', AQ E n Q e a' w' ∧ Arrives P (lone (b.at a (.code c :: .inLoop c :: k)) cs w) b k cs e a' w' := by
    intro m
    induction m using Nat.strongRecOn with
    | _ m ih =>
      intro i fr H a w hm hI hf hs b k cs
      obtain ⟨e, a₁, w₁, ⟨fr1, H1, hf1, hs1, hq⟩, harr⟩ := avc_sound P n c _ _ _ (round i fr H hI) E a w hf hs b (.inLoop c :: k) cs
      cases e with
      | normal =>
        obtain ⟨i', fr2, H2, hfl, hhl, hI2, hlt⟩ := hq
        obtain ⟨e₂, a₂, w₂, hq₂, harr₂⟩ := ih (μ i') (hm ▸ hlt) i' fr2 H2 a₁ w₁ rfl hI2 (hf1.mono hfl) (hs1.mono hhl) b k cs
        exact ⟨e₂, a₂, w₂, hq₂, .of_steps (Steps.trans harr (.one step_inLoop)) harr₂⟩
      | exit id => exact ⟨_, a₁, w₁, ⟨fr1, H1, hf1, hs1, hq⟩, .pass (x := .inLoop c) rfl (fun _ _ => .inl (by simp)) harr⟩
      | goto l => exact ⟨_, a₁, w₁, ⟨fr1, H1, hf1, hs1, hq⟩, .pass (x := .inLoop c) rfl (fun _ _ => .inl (by simp)) harr⟩
      | ret => exact ⟨_, a₁, w₁, ⟨fr1, H1, hf1, hs1, hq⟩, .pass (x := .inLoop c) rfl (fun _ _ => .inl (by simp)) harr⟩
      | panic ch => exact ⟨_, a₁, w₁, ⟨fr1, H1, hf1, hs1, hq⟩, .pass (x := .inLoop c) rfl (fun _ _ => .inl (by simp)) harr⟩
      | outgrown => exact ⟨_, a₁, w₁, ⟨fr1, H1, hf1, hs1, hq⟩, .pass (x := .inLoop c) rfl (fun _ _ => .inl (by simp)) harr⟩
  intro b k cs
  obtain ⟨e, a', w', hq, harr⟩ := key _ i0 fr0 H0 a w rfl hI0 (hf.mono hfl) (hs.mono hhl) b k cs
  exact ⟨e, a', w', hq, .of_steps (.one step_loop) harr⟩

/-- A loop whose state is written out: frame and heap as functions of a ghost. -/
theorem AWp.loopg {P : Program} {n : Nat} {c : Code} {Q : Exit → Fr → AH → Prop} {fr : Fr} {H : AH} {ι : Type} (V : ι → Prop) (F : ι → Fr) (G : ι → AH) (μ : ι → Nat) (i0 : ι)
    (hv : V i0) (hf : FrLe (F i0) fr) (hh : (G i0).le H)
    (round : ∀ i, V i → avc P n c (around (fun i fr H => V i ∧ fr = F i ∧ H = G i) μ i Q) (F i) (G i)) : AWp P n (.loop c) Q fr H :=
  AWp.loop (fun i fr H => V i ∧ fr = F i ∧ H = G i) μ i0 ⟨_, _, hf, hh, hv, rfl, rfl⟩ fun i fr H ⟨h1, h2, h3⟩ => by subst h2; subst h3; exact round i h1

theorem around_end {ι : Type} {V : ι → Prop} {F : ι → Fr} {G : ι → AH} {μ : ι → Nat} {i : ι} {Q : Exit → Fr → AH → Prop} {fr : Fr} {H : AH} (i' : ι)
    (hv : V i') (hf : FrLe (F i') fr) (hh : (G i').le H) (hm : μ i' < μ i) : around (fun i fr H => V i ∧ fr = F i ∧ H = G i) μ i Q .normal fr H :=
  ⟨i', _, _, hf, hh, ⟨hv, rfl, rfl⟩, hm⟩

theorem AWp.weak {P : Program} {n : Nat} {c : Code} {Q : Exit → Fr → AH → Prop} {fr fr' : Fr} {H H' : AH} (hf : FrLe fr' fr) (hh : H'.le H) (h : AWp P n c Q fr' H') : AWp P n c Q fr H :=
  fun E a w h1 h2 => h E a w (h1.mono hf) (h2.mono hh)

/-! ### Results, and a call's beginning -/
section
variable {P : Program} {H : AH}
def aresc (g : Option Bool) (sz : Nat) (P : Program) (ty : TypeId) (H : AH) (v : Option Value) : Option Value :=
  match g, v with
  | some false, some (.pointer (some ⟨b, off, none⟩)) => H.rd ⟨b, off, none⟩
  | some true, some (.pointer (some ⟨b, off, none⟩)) => if sz = 0 then none else (H.row b off sz).map fun l => .agg l.toArray
  | _, _ => none
theorem aresc_agg {sz ty b off : Nat} : aresc (some true) sz P ty H (some (.pointer (some ⟨b, off, none⟩))) = if sz = 0 then none else (H.row b off sz).map fun l => .agg l.toArray := Eq.trans rfl rfl
theorem aresc_cell {sz ty b off : Nat} : aresc (some false) sz P ty H (some (.pointer (some ⟨b, off, none⟩))) = H.rd ⟨b, off, none⟩ := Eq.trans rfl rfl
theorem aresc_run {ty : TypeId} {v : Option Value} {u : Value} (h : aresc (isAggU (P.underlying ty)) (P.cellsOf ty) P ty H v = some u) : ∃ ad, v = some (.pointer (some ad)) ∧ qrun P (loadVar ty ad) H = some u := by
  unfold aresc at h
  split at h
  · rename_i b off hg
    exact ⟨_, rfl, qrun_loadVar (by rw [hg, ldv_cell, h]; rfl)⟩
  · rename_i b off hg
    split at h
    · cases h
    · rename_i hz
      obtain ⟨l, hl, rfl⟩ := Option.map_eq_some_iff.1 h
      exact ⟨_, rfl, qrun_loadVar (by rw [hg, ldv_agg, hl]; exact ⟨hz, rfl⟩)⟩
  · cases h
end

def ares (P : Program) (fr : Fr) (H : AH) : List ResultVar → Option (List Value)
  | [] => some []
  | .tmp t :: rs => (alk t fr).bind fun v => (ares P fr H rs).map (v :: ·)
  | .cell t ty :: rs => (aresc (isAggU (P.underlying ty)) (P.cellsOf ty) P ty H (alk t fr)).bind fun v => (ares P fr H rs).map (v :: ·)

def retv : List Value → Value
  | [v] => v
  | vs => .tuple vs.toArray

def resOf (tmps : Array Value) (x : ResultVar) : Sem Value :=
  match x with
  | .tmp t => pure (tmps.getD t undef)
  | .cell a t => do loadVar t (← asAddr (tmps.getD a undef))

theorem ares_run {E : Nat → Option Obj} {P : Program} {n : Nat} {fr : Fr} {H : AH} {a : Act} {w : World} (hf : FrOk n fr a) (hs : Sat E H w) : ∀ (rs : List ResultVar) (vs : List Value), ares P fr H rs = some vs →
    (rs.mapM (resOf a.tmps)).run P w = Result.ok vs w
  | [], vs, h => by simp only [ares, Option.some.injEq] at h; subst h; rfl
  | .tmp t :: rs, vs, h => by
    simp only [ares] at h
    obtain ⟨v, hv, h⟩ := Option.bind_eq_some_iff.1 h
    obtain ⟨us, hu, rfl⟩ := Option.map_eq_some_iff.1 h
    have := hf.vals _ _ hv
    have e : (resOf a.tmps (.tmp t)).run P w = .ok v w := by simp [resOf, Array.getD_eq_getD_getElem?, this]
    simp only [List.mapM_cons, Sem.run_bind, e, Result.andThen_ok, ares_run hf hs rs us hu, Sem.run_pure]
  | .cell t ty :: rs, vs, h => by
    simp only [ares] at h
    obtain ⟨v, hv, h⟩ := Option.bind_eq_some_iff.1 h
    obtain ⟨us, hu, rfl⟩ := Option.map_eq_some_iff.1 h
    obtain ⟨ad, ha, hq⟩ := aresc_run hv
    have h1 := hf.vals _ _ ha
    have h2 := qrun_sound P _ H v w hq hs
    have e : (resOf a.tmps (.cell t ty)).run P w = .ok v w := by simp [resOf, Array.getD_eq_getD_getElem?, h1, asAddr, h2]
    simp only [List.mapM_cons, Sem.run_bind, e, Result.andThen_ok, ares_run hf hs rs us hu, Sem.run_pure]

theorem results_run {E : Nat → Option Obj} {P : Program} {n : Nat} {fr : Fr} {H : AH} {a : Act} {w : World} {fn : Func} (hf : FrOk n fr a) (hs : Sat E H w) {vs : List Value} (h : ares P fr H fn.results.toList = some vs) :
    (results fn a.tmps).run P w = .ok (retv vs) w := by
  have h1 := ares_run hf hs fn.results.toList vs h
  have e : results fn a.tmps = (fn.results.mapM (resOf a.tmps) >>= fun vs => pure (if h : vs.size = 1 then vs[0] else .tuple vs)) := rfl
  have e2 : fn.results.mapM (resOf a.tmps) = List.toArray <$> fn.results.toList.mapM (resOf a.tmps) := by
    rw [← List.mapM_toArray]
  rw [e, e2]
  simp only [Sem.run_bind, Sem.run_map, h1, Result.andThen_ok]
  cases vs with
  | nil => rfl
  | cons v vs => cases vs <;> rfl

def argFrom : Nat → List Value → Fr
  | _, [] => []
  | k, v :: vs => (k, v) :: argFrom (k + 1) vs

theorem alk_argFrom : ∀ (vs : List Value) (k t : Nat) (v : Value), alk t (argFrom k vs) = some v → k ≤ t ∧ vs[t - k]? = some v
  | [], _, _, _, h => by cases h
  | x :: vs, k, t, v, h => by
    simp only [argFrom, alk_cons] at h
    split at h
    · rename_i e; subst e; cases h; simp
    · rename_i hne
      obtain ⟨h1, h2⟩ := alk_argFrom vs (k + 1) t v h
      refine ⟨by omega, ?_⟩
      rw [show t - k = (t - (k + 1)) + 1 from by omega]
      simpa using h2

/-- What a function's end must meet. -/
def aend (P : Program) (rs : List ResultVar) (K : Value → AH → Prop) : Exit → Fr → AH → Prop
  | .normal => fun fr H => match ares P fr H rs with
    | some vs => ∃ H', H'.le H ∧ K (retv vs) H'
    | none => False
  | .ret => fun fr H => match ares P fr H rs with
    | some vs => ∃ H', H'.le H ∧ K (retv vs) H'
    | none => False
  | _ => fun _ _ => False

theorem ACalls.enter {P : Program} {f : FuncId} {fn : Func} {c : Code} {args : Array Value} {H : AH} {K : Value → AH → Prop} (hf : P.funcs[f]? = some fn) (hb : fn.body = some c) (hn : args.size ≤ fn.ntmps)
    (h : avc P fn.ntmps c (aend P fn.results.toList K) (argFrom 0 args.toList) H) : ACalls P f args H K := by
  intro E w hs
  refine calls_of_wp hf hb (wp_mono (avc_sound P _ c _ _ _ h E _ w ⟨rfl, by simp; omega, fun t v hv => ?_⟩ hs) ?_)
  · obtain ⟨_, h2⟩ := alk_argFrom _ _ _ _ hv
    have hlt : t < args.size := by
      rcases Nat.lt_or_ge t args.size with h | h
      · exact h
      · simp [Array.getElem?_eq_none h] at h2
    rw [Array.getElem?_append_left hlt]
    simpa using h2
  · rintro e a w ⟨fr, H1, h1, h2, h3⟩
    have fin : (match ares P fr H1 fn.results.toList with
        | some vs => ∃ H', H'.le H1 ∧ K (retv vs) H'
        | none => False) → a.defers = [] ∧ ∃ v, (results fn a.tmps).run P w = .ok v w ∧ ∃ v' H', Ending.returned v = .returned v' ∧ Sat E H' w ∧ K v' H' := fun h3 => by
      split at h3
      · rename_i vs hv
        obtain ⟨H', hl, hk⟩ := h3
        exact ⟨h1.defers, retv vs, results_run h1 h2 hv, retv vs, H', rfl, h2.mono hl, hk⟩
      · exact h3.elim
    cases e with
    | normal => exact fin h3
    | ret => exact fin h3
    | _ => exact h3.elim

/-! ### A region that draws its order, of operations that read and of calls that leave what is known alone -/
theorem QCalls.mk {P : Program} {f : FuncId} {args : Array Value} {H : AH} {K : Value → Prop} {v : Value} (h : ACalls P f args H (fun v' H' => v' = v ∧ H = H')) (hk : K v) : QCalls P f args H K :=
  ⟨v, h.mono fun _ _ ⟨h1, h2⟩ => ⟨h1, h2 ▸ AH.le_refl _⟩, hk⟩

theorem aqops_sound {E : Nat → Option Obj} {P : Program} {n : Nat} {ops : Array Oper} {H : AH} {Q : Act → Prop} {K : Fr → AH → Prop}
    (hQ : ∀ fr a, FrOk n fr a → K fr H → Q a) : ∀ (l : List Oper) (fr : Fr) (a : Act), aops true P n (ops.toList.map (·.dst)) l fr H K → FrOk n fr a → wpQuiet P ops (Sat E H) Q l a
  | [], fr, a, h, hf => hQ _ _ hf h
  | o :: rest, fr, a, h, hf => by
    simp only [aops] at h
    split at h
    · exact h.elim
    · rename_i g hg
      have hw := aguard_sound hf hg
      simp only [wpQuiet, hw]
      cases g with
      | false =>
        obtain ⟨hd, h1⟩ := h.2 rfl
        simp only [Bool.false_eq_true, if_false]
        exact aqops_sound hQ rest _ _ h1 ((hf.gov hg).put hd _)
      | true =>
        obtain ⟨ho, h1⟩ := h.1 rfl
        have hd : dok n o.dst = true := by simp only [okOp, Bool.and_eq_true] at ho; exact ho.2
        simp only [if_true]
        unfold aop at h1
        split at h1
        · split at h1
          · rename_i nx hn
            have hr : ∀ w, Sat E H w → (execOp a.eval o).run P w = .ok nx w := fun w hs => by rw [(hf.gov hg).exec ho]; exact qrun_sound P _ H nx w hn hs
            cases nx <;> simp only [anext] at h1 <;> try exact h1.elim
            · rename_i v
              exact ⟨v, fun w hs => by simp only [Oper.quietAt, hr w hs, Oper.quietUpon, and_self], aqops_sound hQ rest _ _ h1 ((hf.gov hg).put hd v)⟩
            · exact ⟨undef, fun w hs => by simp only [Oper.quietAt, hr w hs, Oper.quietUpon, and_self], aqops_sound hQ rest _ _ h1 ((hf.gov hg).put hd _)⟩
            · rename_i f args
              obtain ⟨v, hc, hk⟩ := h1
              refine ⟨v, fun w hs => ?_, aqops_sound hQ rest _ _ hk ((hf.gov hg).put hd v)⟩
              simp only [Oper.quietAt, hr w hs, Oper.quietUpon, true_and]
              exact (hc E w hs).mono fun e w' ⟨v', H', h1, h2, h3, h4⟩ => ⟨by rw [h1, h3], h2.mono h4⟩
          · exact h1.elim
        · exact absurd h1.1 (by simp)
        · exact absurd h1.1 (by simp)

/-- The slots of a region's operations, reckoned once. -/
def nd (ds : List (Option Tmp)) (k : List (Option Tmp) → Prop) (_t : Lk k := .mk) : Prop := k ds
theorem nd_eq (ds : List (Option Tmp)) (k : List (Option Tmp) → Prop) : nd ds k = k ds := Eq.trans rfl rfl

theorem AWp.quiet {P : Program} {n : Nat} {id : Nat} {l : List Oper} {Q : Exit → Fr → AH → Prop} {fr : Fr} {H : AH} (hm : P.follows .mixedOrders = true) (hB : Region.lexB .any l.toArray = true)
    (h : nd (l.map (·.dst)) fun ds => vops true P n ds l fr H (Q .normal)) : AWp P n (.region id l.toArray true) Q fr H :=
  fun E a w hf hs => wp_region_quiet (C := Sat E H) hm hB hs.drew (by
    have h' : vops true P n (l.toArray.toList.map (·.dst)) l.toArray.toList fr H (Q .normal) := h
    exact aqops_sound (K := Q .normal) (fun fr' _ h1 h2 w' hs' => ⟨fr', H, h1, hs', h2⟩) _ _ _ (vops_sound _ _ _ h') hf)

/-! ### What 'simp' does not look into -/

/-! ### The equations of code -/
section
variable {P : Program} {n : Nat} {Q : Exit → Fr → AH → Prop} {fr : Fr} {H : AH}
theorem V_skip : avc P n .skip Q fr H = Q .normal fr H := Eq.trans rfl rfl
theorem V_label {l : Nat} : avc P n (.label l) Q fr H = Q .normal fr H := Eq.trans rfl rfl
theorem V_exit {l : Nat} : avc P n (.exit l) Q fr H = Q (.exit l) fr H := Eq.trans rfl rfl
theorem V_ret : avc P n .ret Q fr H = Q .ret fr H := Eq.trans rfl rfl
theorem V_seq {a b : Code} : avc P n (.seq a b) Q fr H = avc P n a (aseq (avc P n b Q) Q) fr H := Eq.trans rfl rfl
theorem V_block {id : Nat} {a : Code} : avc P n (.block id a) Q fr H = avc P n a (ablock id Q) fr H := Eq.trans rfl rfl
theorem V_cond {c : Operand} {x y : Code} : avc P n (.cond c x y) Q fr H = wv fr c fun v => acond v (avc P n x Q fr H) (avc P n y Q fr H) := Eq.trans rfl rfl
theorem V_region {id : Nat} {ops : List Oper} : avc P n (.region id ops.toArray false) Q fr H = nd (ops.map (·.dst)) fun ds => vops false P n ds ops fr H (Q .normal) := by simp [avc, nd]
theorem V_draw {id : Nat} {ops : Array Oper} : avc P n (.region id ops true) Q fr H = AWp P n (.region id ops true) Q fr H := by simp [avc]
theorem V_loop {a : Code} : avc P n (.loop a) Q fr H = AWp P n (.loop a) Q fr H := Eq.trans rfl rfl
theorem acond_bool {b : Bool} {A B : Prop} : acond (.bool b) A B = (imp (b = true) A ∧ imp (b = false) B) := Eq.trans rfl rfl
theorem acond_t {A B : Prop} : acond (.bool true) A B = A := by simp [acond]
theorem acond_f {A B : Prop} : acond (.bool false) A B = B := by simp [acond]
theorem aseq_normal {K : Fr → AH → Prop} : aseq K Q .normal fr H = K fr H := Eq.trans rfl rfl
theorem aseq_exit {K : Fr → AH → Prop} {i : Nat} : aseq K Q (.exit i) fr H = Q (.exit i) fr H := Eq.trans rfl rfl
theorem aseq_ret {K : Fr → AH → Prop} : aseq K Q .ret fr H = Q .ret fr H := Eq.trans rfl rfl
theorem ablock_normal {id : Nat} : ablock id Q .normal fr H = Q .normal fr H := Eq.trans rfl rfl
theorem ablock_ret {id : Nat} : ablock id Q .ret fr H = Q .ret fr H := Eq.trans rfl rfl
theorem ablock_exit {id i : Nat} : ablock id Q (.exit i) fr H = if i = id then Q .normal fr H else Q (.exit i) fr H := Eq.trans rfl rfl
theorem around_exit {ι : Type} {I : ι → Fr → AH → Prop} {μ : ι → Nat} {i : ι} {l : Nat} : around I μ i Q (.exit l) fr H = Q (.exit l) fr H := Eq.trans rfl rfl
theorem around_ret {ι : Type} {I : ι → Fr → AH → Prop} {μ : ι → Nat} {i : ι} : around I μ i Q .ret fr H = Q .ret fr H := Eq.trans rfl rfl
theorem aend_ret {rs : List ResultVar} {K : Value → AH → Prop} : aend P rs K .ret fr H = wo (ares P fr H rs) fun vs => ∃ H', H'.le H ∧ K (retv vs) H' := by
  simp only [aend]; cases ares P fr H rs <;> rfl
theorem aend_normal {rs : List ResultVar} {K : Value → AH → Prop} : aend P rs K .normal fr H = wo (ares P fr H rs) fun vs => ∃ H', H'.le H ∧ K (retv vs) H' := by
  simp only [aend]; cases ares P fr H rs <;> rfl
theorem ares_nil : ares P fr H [] = some [] := Eq.trans rfl rfl
theorem ares_tmp {t : Nat} {rs : List ResultVar} : ares P fr H (.tmp t :: rs) = (alk t fr).bind fun v => (ares P fr H rs).map (v :: ·) := Eq.trans rfl rfl
theorem ares_cell {t ty : Nat} {rs : List ResultVar} : ares P fr H (.cell t ty :: rs) = (aresc (isAggU (P.underlying ty)) (P.cellsOf ty) P ty H (alk t fr)).bind fun v => (ares P fr H rs).map (v :: ·) := Eq.trans rfl rfl
theorem retv_one {v : Value} : retv [v] = v := Eq.trans rfl rfl
theorem retv_two {v u : Value} {vs : List Value} : retv (v :: u :: vs) = .tuple (v :: u :: vs).toArray := Eq.trans rfl rfl
theorem retv_nil : retv [] = .tuple #[] := Eq.trans rfl rfl
end

end Go.AX
