/- From a call over the abstract heap to what a statement asks: true is handed back, the arguments read as they did. -/
import Derived.Test.YthinfokelgcipaaAx11
import Derived.ProofKit
import Derived.OpenShut
import Derived.SizedLaws
import Derived.Lib.SmallJoins
namespace Go.AX
set_option linter.unusedSimpArgs false
set_option linter.unusedVariables false
open Go Go.RowKit Go.ChangeShapes Go.WideShapes Go.ChangeAt
section
variable {P : Program} {HT : Type} {enc : TypeId × Value → HT}

theorem trodAll_stays (hl : laidOutB P = true) {W W' : World} {sp : Nat → Bool} (hb : Below W.heap.size W W') : ∀ (ts : List TypeId) (vs : List Value) (ds : List (DataW HT)) (ps : List MemPlace),
    (ts.all fun t => P.readableRec t && decide (t < P.types.size)) = true → DataW.TrodAll enc P W 0 (fun _ => true) true ts vs ds ps → (∀ x ∈ ps, x.block < W.heap.size ∧ sp x.block = true) →
    DataW.TrodAll enc P W' 0 sp true ts vs ds ps
  | [], vs, ds, ps, _, h, _ => by
    obtain ⟨rfl, rfl, rfl⟩ := trodAll_nil h
    rfl
  | t :: ts, vs, ds, ps, hr, h, hp => by
    simp only [List.all_cons, Bool.and_eq_true, decide_eq_true_eq] at hr
    obtain ⟨v, vs', d, ds', p, q, rfl, rfl, rfl, h1, h2⟩ := trodAll_cons h
    refine ⟨p, q, WideElems.Trod_stays hl hr.1.1 hr.1.2 h1 (fun x hx => hb.same (hp x (by simp [hx])).1) (fun x hx => (hp x (by simp [hx])).2), ?_, rfl⟩
    exact trodAll_stays hl hb ts vs' ds' q (by simpa using hr.2) h2 (fun x hx => hp x (by simp [hx]))

theorem law_post {f : FuncId} {fn : Func} {s : ChangeSpec} {W : World} {args : Array Value} {ds gs : List (DataW HT)} {before : List MemPlace} {tb : TypeId}
    (hl : laidOutB P = true) (hps : (fn.params.toList.all fun t => P.readableRec t && decide (t < P.types.size)) = true) (hvars : s.vars = []) (hrt : fn.resultTypes = #[tb]) (hb : P.underlying tb = some .bool)
    (hW : DataW.Whole enc P fn.params.toList s.vars false W args.toList ds gs before)
    (hres : (s.fn HT (ds ++ gs)).results = [.lit (.bool true)]) (hargs : (s.fn HT (ds ++ gs)).args = ds) (hvs : (s.fn HT (ds ++ gs)).vars = [])
    (hc : ACalls P f args ⟨W, []⟩ (fun v H' => v = .bool true ∧ H'.w0 = W)) :
    Calls P f args W fun e W' => ∃ v, e = .returned v ∧ s.post enc P fn false true false false W args v W' := by
  refine (hc W (Sat.start W)).mono ?_
  rintro e W' ⟨v, H', rfl, hs, rfl, hw⟩
  have hbel : Below W.heap.size W W' := hw ▸ hs.below
  refine ⟨_, rfl, ?_⟩
  have hW0 := hW
  obtain ⟨p, q, hA, hV, rfl, _, _⟩ := hW
  have hq : q = [] := by
    rw [hvars] at hV
    cases gs with
    | nil => exact hV
    | cons g gs => exact hV.elim
  subst hq
  refine ⟨ds, gs, p ++ [], [], p, [], hW0, ?_, ?_, ?_, hbel.frame _, fun h => by cases h⟩
  · rw [hres, hrt]
    exact trodAll_mk1 (shut_bool hb true)
  · rw [hargs]
    exact trodAll_stays hl hbel _ _ _ _ hps hA (fun x hx => by
      have := hW0.lt x (by simp [hx])
      exact ⟨this, by simpa using this⟩)
  · rw [hvars, hvs]; rfl

/-! ### What a typed value is -/
theorem okWide_agg {W : World} {r : Reach} {base : Nat} {t : TypeId} {v : Value} {n : Nat} {e : TypeId} (hu : P.underlying t = some (.array n e)) (h : Value.okWide P W r base t v) : ∃ cs, v = .agg cs ∧ cs.size = P.cellsOf t := by
  simp only [Value.okWide, hu] at h
  obtain ⟨cs, h1, h2, _⟩ := h
  exact ⟨cs, h1, h2⟩

/-- An array of integers, opened. -/
theorem open_arr_int {w : World} {base : Nat} {sp : Nat → Bool} {held : Bool} {r : Reach} {b0 : Nat} {t n e : Nat} {k : IntKind} {v : Value} {d : DataW HT} {ps : List MemPlace}
    (hu : P.underlying t = some (.array n e)) (he : P.underlying e = some (.int k)) (hc : P.cellsOf t = n) (h1 : P.cellsOf e = 1)
    (hv : Value.okWide P w r b0 t v) (h : DataW.Trod enc P w base sp held t v d ps) :
    ∃ ns : List Int, ns.length = n ∧ v = .agg (ns.map (Value.int k)).toArray ∧ ∀ x ∈ ns, (Lit.int k x).wf = true := by
  obtain ⟨cs, rfl, hsz⟩ := okWide_agg hu hv
  obtain ⟨fuel, hf⟩ := h
  replace hf : DataW.trod enc P w base sp held fuel t cs.toList = some (d, ps) := hf
  obtain ⟨xs, m, _, _, hl, hxl, hall⟩ := DataW.trod_array hu hf
  rw [hc] at hl
  have hint : ∀ c ∈ cs.toList, ∃ x, c = .int k x ∧ (Lit.int k x).wf = true := by
    intro c hcm
    obtain ⟨i, hi, rfl⟩ := List.mem_iff_getElem.1 hcm
    have hin : i < n := by omega
    have := hall i hin
    rw [h1, Nat.mul_one] at this
    have hx : xs[i]? = some (xs[i]'(by omega)) := List.getElem?_eq_getElem _
    rw [hx] at this
    obtain ⟨x, e1, _, e3⟩ := DataW.trod_int he this
    refine ⟨x, ?_, e3⟩
    have h2 : (cs.toList.drop i).take 1 = [cs.toList[i]] := by
      rw [List.drop_eq_getElem_cons hi]; rfl
    rw [h2] at e1
    exact (List.cons.inj e1).1
  refine ⟨cs.toList.map (fun c => match c with | .int _ x => x | _ => 0), by simp; simpa using hl, ?_, ?_⟩
  · congr 1
    apply Array.ext'
    simp only [List.map_map]
    symm
    conv => rhs; rw [← List.map_id cs.toList]
    apply List.map_congr_left
    intro c hcm
    obtain ⟨x, rfl, _⟩ := hint c hcm
    rfl
  · intro x hx
    simp only [List.mem_map] at hx
    obtain ⟨c, hcm, rfl⟩ := hx
    obtain ⟨x, rfl, hw⟩ := hint c hcm
    exact hw

/-- An array of bools, opened. -/
theorem open_arr_bool {w : World} {base : Nat} {sp : Nat → Bool} {held : Bool} {r : Reach} {b0 : Nat} {t n e : Nat} {v : Value} {d : DataW HT} {ps : List MemPlace}
    (hu : P.underlying t = some (.array n e)) (he : P.underlying e = some .bool) (hc : P.cellsOf t = n) (h1 : P.cellsOf e = 1)
    (hv : Value.okWide P w r b0 t v) (h : DataW.Trod enc P w base sp held t v d ps) :
    ∃ ns : List Bool, ns.length = n ∧ v = .agg (ns.map Value.bool).toArray := by
  obtain ⟨cs, rfl, hsz⟩ := okWide_agg hu hv
  obtain ⟨fuel, hf⟩ := h
  replace hf : DataW.trod enc P w base sp held fuel t cs.toList = some (d, ps) := hf
  obtain ⟨xs, m, _, _, hl, hxl, hall⟩ := DataW.trod_array hu hf
  rw [hc] at hl
  have hint : ∀ c ∈ cs.toList, ∃ x, c = .bool x := by
    intro c hcm
    obtain ⟨i, hi, rfl⟩ := List.mem_iff_getElem.1 hcm
    have hin : i < n := by omega
    have := hall i hin
    rw [h1, Nat.mul_one] at this
    have hx : xs[i]? = some (xs[i]'(by omega)) := List.getElem?_eq_getElem _
    rw [hx] at this
    obtain ⟨x, e1, _⟩ := DataW.trod_bool he this
    refine ⟨x, ?_⟩
    have h2 : (cs.toList.drop i).take 1 = [cs.toList[i]] := by
      rw [List.drop_eq_getElem_cons hi]; rfl
    rw [h2] at e1
    exact (List.cons.inj e1).1
  refine ⟨cs.toList.map (fun c => match c with | .bool x => x | _ => false), by simp; simpa using hl, ?_⟩
  · congr 1
    apply Array.ext'
    simp only [List.map_map]
    symm
    conv => rhs; rw [← List.map_id cs.toList]
    apply List.map_congr_left
    intro c hcm
    obtain ⟨x, rfl⟩ := hint c hcm
    rfl

/-- The arguments of a row, in abstract words (a program written out must not be unfolded here). -/
theorem okw1 {W : World} {r : Reach} {b t0 : Nat} {v0 : Value} (h : ∀ (j : Nat) t v, (#[t0] : Array Nat)[j]? = some t → (#[v0] : Array Value)[j]? = some v → Value.okWide P W r b t v) : Value.okWide P W r b t0 v0 :=
  h 0 t0 v0 rfl rfl
theorem okw2 {W : World} {r : Reach} {b t0 t1 : Nat} {v0 v1 : Value} (h : ∀ (j : Nat) t v, (#[t0, t1] : Array Nat)[j]? = some t → (#[v0, v1] : Array Value)[j]? = some v → Value.okWide P W r b t v) :
    Value.okWide P W r b t0 v0 ∧ Value.okWide P W r b t1 v1 := ⟨h 0 t0 v0 rfl rfl, h 1 t1 v1 rfl rfl⟩
theorem okw3 {W : World} {r : Reach} {b t0 t1 t2 : Nat} {v0 v1 v2 : Value} (h : ∀ (j : Nat) t v, (#[t0, t1, t2] : Array Nat)[j]? = some t → (#[v0, v1, v2] : Array Value)[j]? = some v → Value.okWide P W r b t v) :
    Value.okWide P W r b t0 v0 ∧ Value.okWide P W r b t1 v1 ∧ Value.okWide P W r b t2 v2 := ⟨h 0 t0 v0 rfl rfl, h 1 t1 v1 rfl rfl, h 2 t2 v2 rfl rfl⟩

theorem okw4 {W : World} {r : Reach} {b t0 t1 t2 t3 : Nat} {v0 v1 v2 v3 : Value} (h : ∀ (j : Nat) t v, (#[t0, t1, t2, t3] : Array Nat)[j]? = some t → (#[v0, v1, v2, v3] : Array Value)[j]? = some v → Value.okWide P W r b t v) :
    Value.okWide P W r b t0 v0 ∧ Value.okWide P W r b t1 v1 ∧ Value.okWide P W r b t2 v2 ∧ Value.okWide P W r b t3 v3 := ⟨h 0 t0 v0 rfl rfl, h 1 t1 v1 rfl rfl, h 2 t2 v2 rfl rfl, h 3 t3 v3 rfl rfl⟩

theorem okw5 {W : World} {r : Reach} {b t0 t1 t2 t3 t4 : Nat} {v0 v1 v2 v3 v4 : Value} (h : ∀ (j : Nat) t v, (#[t0, t1, t2, t3, t4] : Array Nat)[j]? = some t → (#[v0, v1, v2, v3, v4] : Array Value)[j]? = some v → Value.okWide P W r b t v) :
    Value.okWide P W r b t0 v0 ∧ Value.okWide P W r b t1 v1 ∧ Value.okWide P W r b t2 v2 ∧ Value.okWide P W r b t3 v3 ∧ Value.okWide P W r b t4 v4 := ⟨h 0 t0 v0 rfl rfl, h 1 t1 v1 rfl rfl, h 2 t2 v2 rfl rfl, h 3 t3 v3 rfl rfl, h 4 t4 v4 rfl rfl⟩
theorem trodAll_five {w : World} {base : Nat} {spare : Nat → Bool} {held : Bool} {t0 t1 t2 t3 t4 : TypeId} {args : Array Value} {ds : List (DataW HT)} {ps : List MemPlace} (h : DataW.TrodAll enc P w base spare held [t0, t1, t2, t3, t4] args.toList ds ps) :
    ∃ v0 v1 v2 v3 v4 d0 d1 d2 d3 d4 p0 p1 p2 p3 p4, args = #[v0, v1, v2, v3, v4] ∧ ds = [d0, d1, d2, d3, d4] ∧ ps = p0 ++ p1 ++ p2 ++ p3 ++ p4 ∧ DataW.Trod enc P w base spare held t0 v0 d0 p0 ∧ DataW.Trod enc P w base spare held t1 v1 d1 p1 ∧ DataW.Trod enc P w base spare held t2 v2 d2 p2 ∧ DataW.Trod enc P w base spare held t3 v3 d3 p3 ∧ DataW.Trod enc P w base spare held t4 v4 d4 p4 := by
  obtain ⟨v0, vs0, d0, ds0, p0, q0, hargs, rfl, rfl, h0, r0⟩ := trodAll_cons h
  obtain ⟨v1, vs1, d1, ds1, p1, q1, rfl, rfl, rfl, h1, r1⟩ := trodAll_cons r0
  obtain ⟨v2, vs2, d2, ds2, p2, q2, rfl, rfl, rfl, h2, r2⟩ := trodAll_cons r1
  obtain ⟨v3, vs3, d3, ds3, p3, q3, rfl, rfl, rfl, h3, r3⟩ := trodAll_cons r2
  obtain ⟨v4, vs4, d4, ds4, p4, q4, rfl, rfl, rfl, h4, r4⟩ := trodAll_cons r3
  obtain ⟨rfl, rfl, rfl⟩ := trodAll_nil r4
  exact ⟨v0, v1, v2, v3, v4, d0, d1, d2, d3, d4, p0, p1, p2, p3, p4, by cases args; simp_all, rfl, by simp, h0, h1, h2, h3, h4⟩
theorem okw6 {W : World} {r : Reach} {b t0 t1 t2 t3 t4 t5 : Nat} {v0 v1 v2 v3 v4 v5 : Value} (h : ∀ (j : Nat) t v, (#[t0, t1, t2, t3, t4, t5] : Array Nat)[j]? = some t → (#[v0, v1, v2, v3, v4, v5] : Array Value)[j]? = some v → Value.okWide P W r b t v) :
    Value.okWide P W r b t0 v0 ∧ Value.okWide P W r b t1 v1 ∧ Value.okWide P W r b t2 v2 ∧ Value.okWide P W r b t3 v3 ∧ Value.okWide P W r b t4 v4 ∧ Value.okWide P W r b t5 v5 := ⟨h 0 t0 v0 rfl rfl, h 1 t1 v1 rfl rfl, h 2 t2 v2 rfl rfl, h 3 t3 v3 rfl rfl, h 4 t4 v4 rfl rfl, h 5 t5 v5 rfl rfl⟩
theorem trodAll_six {w : World} {base : Nat} {spare : Nat → Bool} {held : Bool} {t0 t1 t2 t3 t4 t5 : TypeId} {args : Array Value} {ds : List (DataW HT)} {ps : List MemPlace} (h : DataW.TrodAll enc P w base spare held [t0, t1, t2, t3, t4, t5] args.toList ds ps) :
    ∃ v0 v1 v2 v3 v4 v5 d0 d1 d2 d3 d4 d5 p0 p1 p2 p3 p4 p5, args = #[v0, v1, v2, v3, v4, v5] ∧ ds = [d0, d1, d2, d3, d4, d5] ∧ ps = p0 ++ p1 ++ p2 ++ p3 ++ p4 ++ p5 ∧ DataW.Trod enc P w base spare held t0 v0 d0 p0 ∧ DataW.Trod enc P w base spare held t1 v1 d1 p1 ∧ DataW.Trod enc P w base spare held t2 v2 d2 p2 ∧ DataW.Trod enc P w base spare held t3 v3 d3 p3 ∧ DataW.Trod enc P w base spare held t4 v4 d4 p4 ∧ DataW.Trod enc P w base spare held t5 v5 d5 p5 := by
  obtain ⟨v0, vs0, d0, ds0, p0, q0, hargs, rfl, rfl, h0, r0⟩ := trodAll_cons h
  obtain ⟨v1, vs1, d1, ds1, p1, q1, rfl, rfl, rfl, h1, r1⟩ := trodAll_cons r0
  obtain ⟨v2, vs2, d2, ds2, p2, q2, rfl, rfl, rfl, h2, r2⟩ := trodAll_cons r1
  obtain ⟨v3, vs3, d3, ds3, p3, q3, rfl, rfl, rfl, h3, r3⟩ := trodAll_cons r2
  obtain ⟨v4, vs4, d4, ds4, p4, q4, rfl, rfl, rfl, h4, r4⟩ := trodAll_cons r3
  obtain ⟨v5, vs5, d5, ds5, p5, q5, rfl, rfl, rfl, h5, r5⟩ := trodAll_cons r4
  obtain ⟨rfl, rfl, rfl⟩ := trodAll_nil r5
  exact ⟨v0, v1, v2, v3, v4, v5, d0, d1, d2, d3, d4, d5, p0, p1, p2, p3, p4, p5, by cases args; simp_all, rfl, by simp, h0, h1, h2, h3, h4, h5⟩
theorem okw7 {W : World} {r : Reach} {b t0 t1 t2 t3 t4 t5 t6 : Nat} {v0 v1 v2 v3 v4 v5 v6 : Value} (h : ∀ (j : Nat) t v, (#[t0, t1, t2, t3, t4, t5, t6] : Array Nat)[j]? = some t → (#[v0, v1, v2, v3, v4, v5, v6] : Array Value)[j]? = some v → Value.okWide P W r b t v) :
    Value.okWide P W r b t0 v0 ∧ Value.okWide P W r b t1 v1 ∧ Value.okWide P W r b t2 v2 ∧ Value.okWide P W r b t3 v3 ∧ Value.okWide P W r b t4 v4 ∧ Value.okWide P W r b t5 v5 ∧ Value.okWide P W r b t6 v6 := ⟨h 0 t0 v0 rfl rfl, h 1 t1 v1 rfl rfl, h 2 t2 v2 rfl rfl, h 3 t3 v3 rfl rfl, h 4 t4 v4 rfl rfl, h 5 t5 v5 rfl rfl, h 6 t6 v6 rfl rfl⟩
theorem trodAll_seven {w : World} {base : Nat} {spare : Nat → Bool} {held : Bool} {t0 t1 t2 t3 t4 t5 t6 : TypeId} {args : Array Value} {ds : List (DataW HT)} {ps : List MemPlace} (h : DataW.TrodAll enc P w base spare held [t0, t1, t2, t3, t4, t5, t6] args.toList ds ps) :
    ∃ v0 v1 v2 v3 v4 v5 v6 d0 d1 d2 d3 d4 d5 d6 p0 p1 p2 p3 p4 p5 p6, args = #[v0, v1, v2, v3, v4, v5, v6] ∧ ds = [d0, d1, d2, d3, d4, d5, d6] ∧ ps = p0 ++ p1 ++ p2 ++ p3 ++ p4 ++ p5 ++ p6 ∧ DataW.Trod enc P w base spare held t0 v0 d0 p0 ∧ DataW.Trod enc P w base spare held t1 v1 d1 p1 ∧ DataW.Trod enc P w base spare held t2 v2 d2 p2 ∧ DataW.Trod enc P w base spare held t3 v3 d3 p3 ∧ DataW.Trod enc P w base spare held t4 v4 d4 p4 ∧ DataW.Trod enc P w base spare held t5 v5 d5 p5 ∧ DataW.Trod enc P w base spare held t6 v6 d6 p6 := by
  obtain ⟨v0, vs0, d0, ds0, p0, q0, hargs, rfl, rfl, h0, r0⟩ := trodAll_cons h
  obtain ⟨v1, vs1, d1, ds1, p1, q1, rfl, rfl, rfl, h1, r1⟩ := trodAll_cons r0
  obtain ⟨v2, vs2, d2, ds2, p2, q2, rfl, rfl, rfl, h2, r2⟩ := trodAll_cons r1
  obtain ⟨v3, vs3, d3, ds3, p3, q3, rfl, rfl, rfl, h3, r3⟩ := trodAll_cons r2
  obtain ⟨v4, vs4, d4, ds4, p4, q4, rfl, rfl, rfl, h4, r4⟩ := trodAll_cons r3
  obtain ⟨v5, vs5, d5, ds5, p5, q5, rfl, rfl, rfl, h5, r5⟩ := trodAll_cons r4
  obtain ⟨v6, vs6, d6, ds6, p6, q6, rfl, rfl, rfl, h6, r6⟩ := trodAll_cons r5
  obtain ⟨rfl, rfl, rfl⟩ := trodAll_nil r6
  exact ⟨v0, v1, v2, v3, v4, v5, v6, d0, d1, d2, d3, d4, d5, d6, p0, p1, p2, p3, p4, p5, p6, by cases args; simp_all, rfl, by simp, h0, h1, h2, h3, h4, h5, h6⟩

theorem list1 {α : Type} {l : List α} (h : l.length = 1) : ∃ x0, l = [x0] := by
  match l, h with
  | [x0], _ => exact ⟨x0, rfl⟩
theorem list2 {α : Type} {l : List α} (h : l.length = 2) : ∃ x0 x1, l = [x0, x1] := by
  match l, h with
  | [x0, x1], _ => exact ⟨x0, x1, rfl⟩
theorem list3 {α : Type} {l : List α} (h : l.length = 3) : ∃ x0 x1 x2, l = [x0, x1, x2] := by
  match l, h with
  | [x0, x1, x2], _ => exact ⟨x0, x1, x2, rfl⟩
theorem list4 {α : Type} {l : List α} (h : l.length = 4) : ∃ x0 x1 x2 x3, l = [x0, x1, x2, x3] := by
  match l, h with
  | [x0, x1, x2, x3], _ => exact ⟨x0, x1, x2, x3, rfl⟩
theorem list5 {α : Type} {l : List α} (h : l.length = 5) : ∃ x0 x1 x2 x3 x4, l = [x0, x1, x2, x3, x4] := by
  match l, h with
  | [x0, x1, x2, x3, x4], _ => exact ⟨x0, x1, x2, x3, x4, rfl⟩

end
end Go.AX
