/- From a call over the abstract heap to what a statement asks: true is handed back, the arguments read as they did. -/
import Derived.Test.YtmkbpdlijfjgkaaDoorAx12
import Derived.Deep.Slices
import Derived.ProofKit
import Derived.OpenShut
import Derived.SizedLaws
import Derived.Lib.SmallJoins
namespace Go.AX
set_option linter.unusedSimpArgs false
set_option linter.unusedVariables false
open Go Go.RowKit Go.ChangeShapes Go.WideShapes Go.ChangeAt
section
variable {P : Program} {HT : Type} {enc : TypeId × Value → HT}

theorem trodAll_stays (hl : laidOutB P = true) {W W' : World} {sp : Nat → Bool} (hb : Below W.heap.size W W') : ∀ (ts : List TypeId) (vs : List Value) (ds : List (DataW HT)) (ps : List MemPlace),
    (ts.all fun t => P.readableRec t && decide (t < P.types.size)) = true → DataW.TrodAll enc P W 0 (fun _ => true) true ts vs ds ps → (∀ x ∈ ps, x.block < W.heap.size ∧ sp x.block = true) →
    DataW.TrodAll enc P W' 0 sp true ts vs ds ps
  | [], vs, ds, ps, _, h, _ => by
    obtain ⟨rfl, rfl, rfl⟩ := trodAll_nil h
    rfl
  | t :: ts, vs, ds, ps, hr, h, hp => by
    simp only [List.all_cons, Bool.and_eq_true, decide_eq_true_eq] at hr
    obtain ⟨v, vs', d, ds', p, q, rfl, rfl, rfl, h1, h2⟩ := trodAll_cons h
    refine ⟨p, q, WideElems.Trod_stays hl hr.1.1 hr.1.2 h1 (fun x hx => hb.same (hp x (by simp [hx])).1) (fun x hx => (hp x (by simp [hx])).2), ?_, rfl⟩
    exact trodAll_stays hl hb ts vs' ds' q (by simpa using hr.2) h2 (fun x hx => hp x (by simp [hx]))

theorem law_post {f : FuncId} {fn : Func} {s : ChangeSpec} {W : World} {args : Array Value} {ds gs : List (DataW HT)} {before : List MemPlace} {tb : TypeId}
    (hl : laidOutB P = true) (hps : (fn.params.toList.all fun t => P.readableRec t && decide (t < P.types.size)) = true) (hvars : s.vars = []) (hrt : fn.resultTypes = #[tb]) (hb : P.underlying tb = some .bool)
    (hW : DataW.Whole enc P fn.params.toList s.vars false W args.toList ds gs before)
    (hres : (s.fn HT (ds ++ gs)).results = [.lit (.bool true)]) (hargs : (s.fn HT (ds ++ gs)).args = ds) (hvs : (s.fn HT (ds ++ gs)).vars = [])
    (hc : ACalls P f args ⟨W, []⟩ (fun v H' => v = .bool true ∧ H'.w0 = W)) :
    Calls P f args W fun e W' => ∃ v, e = .returned v ∧ s.post enc P fn false true false false W args v W' := by
  refine (hc _ W (Sat.start W)).mono ?_
  rintro e W' ⟨v, H', rfl, hs, rfl, hw⟩
  have hbel : Below W.heap.size W W' := hw ▸ hs.below
  refine ⟨_, rfl, ?_⟩
  have hW0 := hW
  obtain ⟨p, q, hA, hV, rfl, _, _⟩ := hW
  have hq : q = [] := by
    rw [hvars] at hV
    cases gs with
    | nil => exact hV
    | cons g gs => exact hV.elim
  subst hq
  refine ⟨ds, gs, p ++ [], [], p, [], hW0, ?_, ?_, ?_, hbel.frame _, fun h => by cases h⟩
  · rw [hres, hrt]
    exact trodAll_mk1 (shut_bool hb true)
  · rw [hargs]
    exact trodAll_stays hl hbel _ _ _ _ hps hA (fun x hx => by
      have := hW0.lt x (by simp [hx])
      exact ⟨this, by simpa using this⟩)
  · rw [hvars, hvs]; rfl

/-! ### What a typed value is -/
theorem okWide_agg {W : World} {r : Reach} {base : Nat} {t : TypeId} {v : Value} {n : Nat} {e : TypeId} (hu : P.underlying t = some (.array n e)) (h : Value.okWide P W r base t v) : ∃ cs, v = .agg cs ∧ cs.size = P.cellsOf t := by
  simp only [Value.okWide, hu] at h
  obtain ⟨cs, h1, h2, _⟩ := h
  exact ⟨cs, h1, h2⟩

/-- An array of integers, opened. -/
theorem open_arr_int {w : World} {base : Nat} {sp : Nat → Bool} {held : Bool} {r : Reach} {b0 : Nat} {t n e : Nat} {k : IntKind} {v : Value} {d : DataW HT} {ps : List MemPlace}
    (hu : P.underlying t = some (.array n e)) (he : P.underlying e = some (.int k)) (hc : P.cellsOf t = n) (h1 : P.cellsOf e = 1)
    (hv : Value.okWide P w r b0 t v) (h : DataW.Trod enc P w base sp held t v d ps) :
    ∃ ns : List Int, ns.length = n ∧ v = .agg (ns.map (Value.int k)).toArray ∧ ∀ x ∈ ns, (Lit.int k x).wf = true := by
  obtain ⟨cs, rfl, hsz⟩ := okWide_agg hu hv
  obtain ⟨fuel, hf⟩ := h
  replace hf : DataW.trod enc P w base sp held fuel t cs.toList = some (d, ps) := hf
  obtain ⟨xs, m, _, _, hl, hxl, hall⟩ := DataW.trod_array hu hf
  rw [hc] at hl
  have hint : ∀ c ∈ cs.toList, ∃ x, c = .int k x ∧ (Lit.int k x).wf = true := by
    intro c hcm
    obtain ⟨i, hi, rfl⟩ := List.mem_iff_getElem.1 hcm
    have hin : i < n := by omega
    have := hall i hin
    rw [h1, Nat.mul_one] at this
    have hx : xs[i]? = some (xs[i]'(by omega)) := List.getElem?_eq_getElem _
    rw [hx] at this
    obtain ⟨x, e1, _, e3⟩ := DataW.trod_int he this
    refine ⟨x, ?_, e3⟩
    have h2 : (cs.toList.drop i).take 1 = [cs.toList[i]] := by
      rw [List.drop_eq_getElem_cons hi]; rfl
    rw [h2] at e1
    exact (List.cons.inj e1).1
  refine ⟨cs.toList.map (fun c => match c with | .int _ x => x | _ => 0), by simp; simpa using hl, ?_, ?_⟩
  · congr 1
    apply Array.ext'
    simp only [List.map_map]
    symm
    conv => rhs; rw [← List.map_id cs.toList]
    apply List.map_congr_left
    intro c hcm
    obtain ⟨x, rfl, _⟩ := hint c hcm
    rfl
  · intro x hx
    simp only [List.mem_map] at hx
    obtain ⟨c, hcm, rfl⟩ := hx
    obtain ⟨x, rfl, hw⟩ := hint c hcm
    exact hw

/-- An array of bools, opened. -/
theorem open_arr_bool {w : World} {base : Nat} {sp : Nat → Bool} {held : Bool} {r : Reach} {b0 : Nat} {t n e : Nat} {v : Value} {d : DataW HT} {ps : List MemPlace}
    (hu : P.underlying t = some (.array n e)) (he : P.underlying e = some .bool) (hc : P.cellsOf t = n) (h1 : P.cellsOf e = 1)
    (hv : Value.okWide P w r b0 t v) (h : DataW.Trod enc P w base sp held t v d ps) :
    ∃ ns : List Bool, ns.length = n ∧ v = .agg (ns.map Value.bool).toArray := by
  obtain ⟨cs, rfl, hsz⟩ := okWide_agg hu hv
  obtain ⟨fuel, hf⟩ := h
  replace hf : DataW.trod enc P w base sp held fuel t cs.toList = some (d, ps) := hf
  obtain ⟨xs, m, _, _, hl, hxl, hall⟩ := DataW.trod_array hu hf
  rw [hc] at hl
  have hint : ∀ c ∈ cs.toList, ∃ x, c = .bool x := by
    intro c hcm
    obtain ⟨i, hi, rfl⟩ := List.mem_iff_getElem.1 hcm
    have hin : i < n := by omega
    have := hall i hin
    rw [h1, Nat.mul_one] at this
    have hx : xs[i]? = some (xs[i]'(by omega)) := List.getElem?_eq_getElem _
    rw [hx] at this
    obtain ⟨x, e1, _⟩ := DataW.trod_bool he this
    refine ⟨x, ?_⟩
    have h2 : (cs.toList.drop i).take 1 = [cs.toList[i]] := by
      rw [List.drop_eq_getElem_cons hi]; rfl
    rw [h2] at e1
    exact (List.cons.inj e1).1
  refine ⟨cs.toList.map (fun c => match c with | .bool x => x | _ => false), by simp; simpa using hl, ?_⟩
  · congr 1
    apply Array.ext'
    simp only [List.map_map]
    symm
    conv => rhs; rw [← List.map_id cs.toList]
    apply List.map_congr_left
    intro c hcm
    obtain ⟨x, rfl⟩ := hint c hcm
    rfl

/-- The arguments of a row, in abstract words (a program written out must not be unfolded here). -/
theorem okw1 {W : World} {r : Reach} {b t0 : Nat} {v0 : Value} (h : ∀ (j : Nat) t v, (#[t0] : Array Nat)[j]? = some t → (#[v0] : Array Value)[j]? = some v → Value.okWide P W r b t v) : Value.okWide P W r b t0 v0 :=
  h 0 t0 v0 rfl rfl
theorem okw2 {W : World} {r : Reach} {b t0 t1 : Nat} {v0 v1 : Value} (h : ∀ (j : Nat) t v, (#[t0, t1] : Array Nat)[j]? = some t → (#[v0, v1] : Array Value)[j]? = some v → Value.okWide P W r b t v) :
    Value.okWide P W r b t0 v0 ∧ Value.okWide P W r b t1 v1 := ⟨h 0 t0 v0 rfl rfl, h 1 t1 v1 rfl rfl⟩
theorem okw3 {W : World} {r : Reach} {b t0 t1 t2 : Nat} {v0 v1 v2 : Value} (h : ∀ (j : Nat) t v, (#[t0, t1, t2] : Array Nat)[j]? = some t → (#[v0, v1, v2] : Array Value)[j]? = some v → Value.okWide P W r b t v) :
    Value.okWide P W r b t0 v0 ∧ Value.okWide P W r b t1 v1 ∧ Value.okWide P W r b t2 v2 := ⟨h 0 t0 v0 rfl rfl, h 1 t1 v1 rfl rfl, h 2 t2 v2 rfl rfl⟩

theorem okw4 {W : World} {r : Reach} {b t0 t1 t2 t3 : Nat} {v0 v1 v2 v3 : Value} (h : ∀ (j : Nat) t v, (#[t0, t1, t2, t3] : Array Nat)[j]? = some t → (#[v0, v1, v2, v3] : Array Value)[j]? = some v → Value.okWide P W r b t v) :
    Value.okWide P W r b t0 v0 ∧ Value.okWide P W r b t1 v1 ∧ Value.okWide P W r b t2 v2 ∧ Value.okWide P W r b t3 v3 := ⟨h 0 t0 v0 rfl rfl, h 1 t1 v1 rfl rfl, h 2 t2 v2 rfl rfl, h 3 t3 v3 rfl rfl⟩

theorem okw5 {W : World} {r : Reach} {b t0 t1 t2 t3 t4 : Nat} {v0 v1 v2 v3 v4 : Value} (h : ∀ (j : Nat) t v, (#[t0, t1, t2, t3, t4] : Array Nat)[j]? = some t → (#[v0, v1, v2, v3, v4] : Array Value)[j]? = some v → Value.okWide P W r b t v) :
    Value.okWide P W r b t0 v0 ∧ Value.okWide P W r b t1 v1 ∧ Value.okWide P W r b t2 v2 ∧ Value.okWide P W r b t3 v3 ∧ Value.okWide P W r b t4 v4 := ⟨h 0 t0 v0 rfl rfl, h 1 t1 v1 rfl rfl, h 2 t2 v2 rfl rfl, h 3 t3 v3 rfl rfl, h 4 t4 v4 rfl rfl⟩
theorem trodAll_five {w : World} {base : Nat} {spare : Nat → Bool} {held : Bool} {t0 t1 t2 t3 t4 : TypeId} {args : Array Value} {ds : List (DataW HT)} {ps : List MemPlace} (h : DataW.TrodAll enc P w base spare held [t0, t1, t2, t3, t4] args.toList ds ps) :
    ∃ v0 v1 v2 v3 v4 d0 d1 d2 d3 d4 p0 p1 p2 p3 p4, args = #[v0, v1, v2, v3, v4] ∧ ds = [d0, d1, d2, d3, d4] ∧ ps = p0 ++ p1 ++ p2 ++ p3 ++ p4 ∧ DataW.Trod enc P w base spare held t0 v0 d0 p0 ∧ DataW.Trod enc P w base spare held t1 v1 d1 p1 ∧ DataW.Trod enc P w base spare held t2 v2 d2 p2 ∧ DataW.Trod enc P w base spare held t3 v3 d3 p3 ∧ DataW.Trod enc P w base spare held t4 v4 d4 p4 := by
  obtain ⟨v0, vs0, d0, ds0, p0, q0, hargs, rfl, rfl, h0, r0⟩ := trodAll_cons h
  obtain ⟨v1, vs1, d1, ds1, p1, q1, rfl, rfl, rfl, h1, r1⟩ := trodAll_cons r0
  obtain ⟨v2, vs2, d2, ds2, p2, q2, rfl, rfl, rfl, h2, r2⟩ := trodAll_cons r1
  obtain ⟨v3, vs3, d3, ds3, p3, q3, rfl, rfl, rfl, h3, r3⟩ := trodAll_cons r2
  obtain ⟨v4, vs4, d4, ds4, p4, q4, rfl, rfl, rfl, h4, r4⟩ := trodAll_cons r3
  obtain ⟨rfl, rfl, rfl⟩ := trodAll_nil r4
  exact ⟨v0, v1, v2, v3, v4, d0, d1, d2, d3, d4, p0, p1, p2, p3, p4, by cases args; simp_all, rfl, by simp, h0, h1, h2, h3, h4⟩
theorem okw6 {W : World} {r : Reach} {b t0 t1 t2 t3 t4 t5 : Nat} {v0 v1 v2 v3 v4 v5 : Value} (h : ∀ (j : Nat) t v, (#[t0, t1, t2, t3, t4, t5] : Array Nat)[j]? = some t → (#[v0, v1, v2, v3, v4, v5] : Array Value)[j]? = some v → Value.okWide P W r b t v) :
    Value.okWide P W r b t0 v0 ∧ Value.okWide P W r b t1 v1 ∧ Value.okWide P W r b t2 v2 ∧ Value.okWide P W r b t3 v3 ∧ Value.okWide P W r b t4 v4 ∧ Value.okWide P W r b t5 v5 := ⟨h 0 t0 v0 rfl rfl, h 1 t1 v1 rfl rfl, h 2 t2 v2 rfl rfl, h 3 t3 v3 rfl rfl, h 4 t4 v4 rfl rfl, h 5 t5 v5 rfl rfl⟩
theorem trodAll_six {w : World} {base : Nat} {spare : Nat → Bool} {held : Bool} {t0 t1 t2 t3 t4 t5 : TypeId} {args : Array Value} {ds : List (DataW HT)} {ps : List MemPlace} (h : DataW.TrodAll enc P w base spare held [t0, t1, t2, t3, t4, t5] args.toList ds ps) :
    ∃ v0 v1 v2 v3 v4 v5 d0 d1 d2 d3 d4 d5 p0 p1 p2 p3 p4 p5, args = #[v0, v1, v2, v3, v4, v5] ∧ ds = [d0, d1, d2, d3, d4, d5] ∧ ps = p0 ++ p1 ++ p2 ++ p3 ++ p4 ++ p5 ∧ DataW.Trod enc P w base spare held t0 v0 d0 p0 ∧ DataW.Trod enc P w base spare held t1 v1 d1 p1 ∧ DataW.Trod enc P w base spare held t2 v2 d2 p2 ∧ DataW.Trod enc P w base spare held t3 v3 d3 p3 ∧ DataW.Trod enc P w base spare held t4 v4 d4 p4 ∧ DataW.Trod enc P w base spare held t5 v5 d5 p5 := by
  obtain ⟨v0, vs0, d0, ds0, p0, q0, hargs, rfl, rfl, h0, r0⟩ := trodAll_cons h
  obtain ⟨v1, vs1, d1, ds1, p1, q1, rfl, rfl, rfl, h1, r1⟩ := trodAll_cons r0
  obtain ⟨v2, vs2, d2, ds2, p2, q2, rfl, rfl, rfl, h2, r2⟩ := trodAll_cons r1
  obtain ⟨v3, vs3, d3, ds3, p3, q3, rfl, rfl, rfl, h3, r3⟩ := trodAll_cons r2
  obtain ⟨v4, vs4, d4, ds4, p4, q4, rfl, rfl, rfl, h4, r4⟩ := trodAll_cons r3
  obtain ⟨v5, vs5, d5, ds5, p5, q5, rfl, rfl, rfl, h5, r5⟩ := trodAll_cons r4
  obtain ⟨rfl, rfl, rfl⟩ := trodAll_nil r5
  exact ⟨v0, v1, v2, v3, v4, v5, d0, d1, d2, d3, d4, d5, p0, p1, p2, p3, p4, p5, by cases args; simp_all, rfl, by simp, h0, h1, h2, h3, h4, h5⟩
theorem okw7 {W : World} {r : Reach} {b t0 t1 t2 t3 t4 t5 t6 : Nat} {v0 v1 v2 v3 v4 v5 v6 : Value} (h : ∀ (j : Nat) t v, (#[t0, t1, t2, t3, t4, t5, t6] : Array Nat)[j]? = some t → (#[v0, v1, v2, v3, v4, v5, v6] : Array Value)[j]? = some v → Value.okWide P W r b t v) :
    Value.okWide P W r b t0 v0 ∧ Value.okWide P W r b t1 v1 ∧ Value.okWide P W r b t2 v2 ∧ Value.okWide P W r b t3 v3 ∧ Value.okWide P W r b t4 v4 ∧ Value.okWide P W r b t5 v5 ∧ Value.okWide P W r b t6 v6 := ⟨h 0 t0 v0 rfl rfl, h 1 t1 v1 rfl rfl, h 2 t2 v2 rfl rfl, h 3 t3 v3 rfl rfl, h 4 t4 v4 rfl rfl, h 5 t5 v5 rfl rfl, h 6 t6 v6 rfl rfl⟩
theorem trodAll_seven {w : World} {base : Nat} {spare : Nat → Bool} {held : Bool} {t0 t1 t2 t3 t4 t5 t6 : TypeId} {args : Array Value} {ds : List (DataW HT)} {ps : List MemPlace} (h : DataW.TrodAll enc P w base spare held [t0, t1, t2, t3, t4, t5, t6] args.toList ds ps) :
    ∃ v0 v1 v2 v3 v4 v5 v6 d0 d1 d2 d3 d4 d5 d6 p0 p1 p2 p3 p4 p5 p6, args = #[v0, v1, v2, v3, v4, v5, v6] ∧ ds = [d0, d1, d2, d3, d4, d5, d6] ∧ ps = p0 ++ p1 ++ p2 ++ p3 ++ p4 ++ p5 ++ p6 ∧ DataW.Trod enc P w base spare held t0 v0 d0 p0 ∧ DataW.Trod enc P w base spare held t1 v1 d1 p1 ∧ DataW.Trod enc P w base spare held t2 v2 d2 p2 ∧ DataW.Trod enc P w base spare held t3 v3 d3 p3 ∧ DataW.Trod enc P w base spare held t4 v4 d4 p4 ∧ DataW.Trod enc P w base spare held t5 v5 d5 p5 ∧ DataW.Trod enc P w base spare held t6 v6 d6 p6 := by
  obtain ⟨v0, vs0, d0, ds0, p0, q0, hargs, rfl, rfl, h0, r0⟩ := trodAll_cons h
  obtain ⟨v1, vs1, d1, ds1, p1, q1, rfl, rfl, rfl, h1, r1⟩ := trodAll_cons r0
  obtain ⟨v2, vs2, d2, ds2, p2, q2, rfl, rfl, rfl, h2, r2⟩ := trodAll_cons r1
  obtain ⟨v3, vs3, d3, ds3, p3, q3, rfl, rfl, rfl, h3, r3⟩ := trodAll_cons r2
  obtain ⟨v4, vs4, d4, ds4, p4, q4, rfl, rfl, rfl, h4, r4⟩ := trodAll_cons r3
  obtain ⟨v5, vs5, d5, ds5, p5, q5, rfl, rfl, rfl, h5, r5⟩ := trodAll_cons r4
  obtain ⟨v6, vs6, d6, ds6, p6, q6, rfl, rfl, rfl, h6, r6⟩ := trodAll_cons r5
  obtain ⟨rfl, rfl, rfl⟩ := trodAll_nil r6
  exact ⟨v0, v1, v2, v3, v4, v5, v6, d0, d1, d2, d3, d4, d5, d6, p0, p1, p2, p3, p4, p5, p6, by cases args; simp_all, rfl, by simp, h0, h1, h2, h3, h4, h5, h6⟩

/-! ### Rows of one-cell parts -/
/-- The types of a type's cells, where all of them lie side by side. -/
def leafTs (P : Program) : Nat → TypeId → Option (List TypeId)
  | 0, _ => none
  | d + 1, t => match P.underlying t with
    | some (.struct fs) => fs.toList.foldl (fun acc f => acc.bind fun l => if l.length = f.offset then (leafTs P d f.type).bind fun m => if m.length = P.cellsOf f.type then some (l ++ m) else none else none) (some [])
    | some (.array n e) => (leafTs P d e).bind fun m => if m.length = P.cellsOf e then some (List.replicate n m).flatten else none
    | some _ => if P.cellsOf t = 1 then some [t] else none
    | none => none

def Leafy (enc : TypeId × Value → HT) (P : Program) (w : World) (base : Nat) (sp : Nat → Bool) (held : Bool) (ts : List TypeId) (cs : List Value) : Prop :=
  ∀ (i : Nat) (t : TypeId) (c : Value), ts[i]? = some t → cs[i]? = some c → ∃ n y, DataW.trod enc P w base sp held n t [c] = some y

theorem leafy_struct {w : World} {base : Nat} {sp : Nat → Bool} {held : Bool} {d n : Nat} {cs : List Value}
    (ih : ∀ t cs ts x, leafTs P d t = some ts → DataW.trod enc P w base sp held n t cs = some x → cs.length = P.cellsOf t → ts.length = P.cellsOf t → Leafy enc P w base sp held ts cs) :
    ∀ (fs : List Field) (l ts : List TypeId), (∀ f ∈ fs, ∃ x, DataW.trod enc P w base sp held n f.type ((cs.drop f.offset).take (P.cellsOf f.type)) = some x) →
      Leafy enc P w base sp held l cs → fs.foldl (fun acc f => acc.bind fun l => if l.length = f.offset then (leafTs P d f.type).bind fun m => if m.length = P.cellsOf f.type then some (l ++ m) else none else none) (some l) = some ts →
      ts.length ≤ cs.length → Leafy enc P w base sp held ts cs
  | [], l, ts, _, hl, h, _ => by
    simp only [List.foldl_nil, Option.some.injEq] at h; subst h; exact hl
  | f :: fs, l, ts, hf, hl, h, hle => by
    simp only [List.foldl_cons, Option.bind_some] at h
    have none_fold : ∀ (fs : List Field), fs.foldl (fun acc f => acc.bind fun l => if l.length = f.offset then (leafTs P d f.type).bind fun m => if m.length = P.cellsOf f.type then some (l ++ m) else none else none) (none : Option (List TypeId)) = none := by
      intro fs; induction fs with
      | nil => rfl
      | cons f fs ih => simpa using ih
    have len_fold : ∀ (fs : List Field) (l ts : List TypeId), fs.foldl (fun acc f => acc.bind fun l => if l.length = f.offset then (leafTs P d f.type).bind fun m => if m.length = P.cellsOf f.type then some (l ++ m) else none else none) (some l) = some ts → l.length ≤ ts.length := by
      intro fs; induction fs with
      | nil => intro l ts h; simp only [List.foldl_nil, Option.some.injEq] at h; subst h; exact Nat.le_refl _
      | cons f fs ih =>
        intro l ts h
        simp only [List.foldl_cons, Option.bind_some] at h
        split at h
        · cases hm : leafTs P d f.type with
          | none => rw [hm] at h; simp only [Option.bind_none] at h; rw [none_fold] at h; cases h
          | some m =>
            rw [hm] at h
            simp only [Option.bind_some] at h
            split at h
            · have := ih _ _ h; simp at this; omega
            · rw [none_fold] at h; cases h
        · rw [none_fold] at h; cases h
    split at h
    · rename_i ho
      cases hm : leafTs P d f.type with
      | none => rw [hm] at h; simp only [Option.bind_none] at h; rw [none_fold] at h; cases h
      | some m =>
        rw [hm] at h
        simp only [Option.bind_some] at h
        split at h
        · rename_i hml
          have hlen := len_fold _ _ _ h
          simp only [List.length_append] at hlen
          refine leafy_struct ih fs (l ++ m) ts (fun g hg => hf g (by simp [hg])) ?_ h hle
          obtain ⟨x, hx⟩ := hf f (by simp)
          have h1 := ih f.type _ m x hm hx (by simp; omega) hml
          intro i t c ht hc
          by_cases hi : i < l.length
          · rw [List.getElem?_append_left hi] at ht; exact hl i t c ht hc
          · rw [List.getElem?_append_right (by omega)] at ht
            have hi2 : i - l.length < m.length := by
              rcases Nat.lt_or_ge (i - l.length) m.length with h | h
              · exact h
              · rw [List.getElem?_eq_none h] at ht; cases ht
            refine h1 (i - l.length) t c ht ?_
            rw [List.getElem?_take, if_pos (by omega), List.getElem?_drop, show f.offset + (i - l.length) = i from by omega]
            exact hc
        · rw [none_fold] at h; cases h
    · rw [none_fold] at h; cases h

theorem leafy {w : World} {base : Nat} {sp : Nat → Bool} {held : Bool} : ∀ (n d : Nat) (t : TypeId) (cs : List Value) (ts : List TypeId) (x : DataW HT × List MemPlace), leafTs P d t = some ts → DataW.trod enc P w base sp held n t cs = some x →
    cs.length = P.cellsOf t → ts.length = P.cellsOf t → Leafy enc P w base sp held ts cs
  | n, 0, t, cs, ts, x, h, _, _, _ => by cases h
  | 0, d + 1, t, cs, ts, x, _, hx, _, _ => by simp [DataW.trod] at hx
  | n + 1, d + 1, t, cs, ts, x, h, hx, hl, hlt => by
    simp only [leafTs] at h
    split at h
    · rename_i fs hu
      obtain ⟨xs, n', hn, _, _, hxl, hf⟩ := DataW.trod_struct hu hx
      have hn' : n' = n := by omega
      subst hn'
      refine leafy_struct (fun t cs ts x h1 h2 h3 h4 => leafy n' d t cs ts x h1 h2 h3 h4) fs.toList [] ts (fun f hf' => ?_) (fun i t c h => by simp at h) h (by omega)
      obtain ⟨i, hi⟩ := List.mem_iff_getElem?.1 hf'
      have hi' : fs[i]? = some f := by simpa using hi
      have hlt : i < xs.length := by
        rw [hxl]
        rcases Nat.lt_or_ge i fs.size with h | h
        · exact h
        · rw [Array.getElem?_eq_none h] at hi'; cases hi'
      exact ⟨xs[i], by rw [hf i f hi']; exact List.getElem?_eq_getElem hlt⟩
    · rename_i m e hu
      obtain ⟨l, hle, h⟩ := Option.bind_eq_some_iff.1 h
      split at h
      · rename_i hll
        cases h
        unfold DataW.trod at hx
        simp only [hu] at hx
        rw [if_pos hl] at hx
        obtain ⟨xs, hxs, _⟩ := Option.map_eq_some_iff.1 hx
        have hel : ∀ j, j < m → ∃ y, DataW.trod enc P w base sp held n e ((cs.drop (j * P.cellsOf e)).take (P.cellsOf e)) = some y := fun j hj => by
          have hl' := mapM_some_length hxs
          have hg := mapM_some_get hxs j j (by simp [hj])
          have hlt : j < xs.length := by rw [hl']; simpa using hj
          exact ⟨xs[j], by rw [hg]; exact List.getElem?_eq_getElem hlt⟩
        intro i t c ht hc
        have hflat : ∀ (m i : Nat) (t : TypeId), (List.replicate m l).flatten[i]? = some t → ∃ j k, j < m ∧ k < l.length ∧ i = j * l.length + k ∧ l[k]? = some t := by
          intro m
          induction m with
          | zero => intro i t h; simp at h
          | succ m ih =>
            intro i t h
            rw [List.replicate_succ, List.flatten_cons] at h
            by_cases hi : i < l.length
            · rw [List.getElem?_append_left hi] at h; exact ⟨0, i, by omega, hi, by simp, h⟩
            · rw [List.getElem?_append_right (by omega)] at h
              obtain ⟨j, k, h1, h2, h3, h4⟩ := ih _ _ h
              exact ⟨j + 1, k, by omega, h2, by rw [Nat.succ_mul]; omega, h4⟩
        obtain ⟨j, k, h1, h2, h3, h4⟩ := hflat m i t ht
        obtain ⟨y, hy⟩ := hel j h1
        have hlen : (List.replicate m l).flatten.length = m * l.length := by simp
        have hle2 : (j + 1) * l.length ≤ m * l.length := Nat.mul_le_mul_right _ (by omega)
        rw [Nat.succ_mul] at hle2
        have hcs : cs.length = m * l.length := by rw [hl, ← hlt, hlen]
        refine leafy n d e _ l y hle hy (by rw [List.length_take, List.length_drop, ← hll]; omega) hll k t c h4 ?_
        rw [List.getElem?_take, if_pos (by omega), List.getElem?_drop, ← hll, ← h3]; exact hc
      · cases h
    · rename_i u hns hna hu
      split at h
      · rename_i h1
        cases h
        intro i t' c ht hc
        have hi : i = 0 := by
          rcases i with _ | i
          · rfl
          · simp at ht
        subst hi
        simp at ht; subst ht
        rw [h1] at hl
        match cs, hl with
        | [c0], _ => simp at hc; subst hc; exact ⟨_, _, hx⟩
      · cases h
    · cases h

/-- A slice among the arguments, or in a field of one, by its rows. -/
theorem open_slcC {w : World} {r : Reach} {b0 t e sz : Nat} {v : Value} {y : DataW HT × List MemPlace} {sp : Nat → Bool} {held : Bool} {ts : List TypeId} (hu : P.underlying t = some (.slice e)) (hz : P.cellsOf e = sz) (h0 : sz ≠ 0)
    (hl : leafTs P 20 e = some ts) (hts : ts.length = sz) (h1 : Cell.okWide P w r b0 t v) (h : ∃ fuel, DataW.trod enc P w 0 sp held fuel t [v] = some y) :
    ∃ base n cap R, v = .slice base n cap ∧ R.length = n ∧ SlcIn ⟨w, []⟩ sz base cap R ∧ ∀ (i : Nat) (r : List Value), R[i]? = some r → r.length = sz ∧ Leafy enc P w 0 sp held ts r := by
  obtain ⟨d, ps⟩ := y
  have hc : Cell.ok P w r b0 t v := by
    unfold Cell.okWide at h1
    rw [hu] at h1
    exact h1
  have hform : v = .slice none 0 0 ∨ ∃ a len cap, v = .slice (some a) len cap ∧ a.spot = none ∧ (cap : Int) ≤ IntKind.i64.max ∧ ∃ s, w.shape? a.block = some s := by
    unfold Cell.ok at hc
    rw [hu] at hc
    split at hc <;> simp_all [World.has]
    obtain ⟨q1, q2, q3, q4, row, cells, q5, q6⟩ := hc
    exact ⟨_, _, _, ⟨rfl, rfl, rfl⟩, q4, q2, _, _, q5⟩
  obtain ⟨fuel, h⟩ := h
  rcases hform with rfl | ⟨a, len, cap, rfl, hsp, hcap, shp, hshp⟩
  · exact ⟨none, 0, 0, [], rfl, rfl, ⟨by simp, by simp, fun i hi => by simp at hi, fun b o hb => (by cases hb), fun b o hb => (by cases hb)⟩, fun i r hr => by simp at hr⟩
  · rcases Go.Deep.open_slice hu h with ⟨h1, _⟩ | ⟨a', len', cap', m, n, D, Pl, h1, hb, hle, hm, hmm, _, hx⟩
    · have h2 : (Value.slice (some a) len cap) = .slice none 0 0 := by
        have : [Value.slice (some a) len cap] = [.slice none 0 0] := h1
        simp at this
      cases h2
    · have h2 : (Value.slice (some a) len cap) = .slice (some a') len' cap' := by
        have : [Value.slice (some a) len cap] = [.slice (some a') len' cap'] := h1
        simpa using this
      cases h2
      obtain ⟨b, o, spot⟩ := a
      simp only at hsp
      subst hsp
      have hlm : len ≤ m := by rw [hmm]; split <;> omega
      obtain ⟨f, hf⟩ := Go.Deep.choose_lt (n := len) (p := fun i cs' => w.cells? 0 ((⟨b, o, none⟩ : Addr).add (i * P.cellsOf e)) (P.cellsOf e) = some cs' ∧ ∃ x, DataW.trod enc P w 0 sp held n e cs' = some x)
        (fun i hi => by obtain ⟨cs', h3, h4⟩ := hx i (by omega); exact ⟨cs', h3, _, h4⟩)
      have hcell : ∀ i, i < len → (f i).length = sz ∧ ∀ j, j < sz → w.cell? ⟨b, o + (i * sz + j), none⟩ = (f i)[j]? := fun i hi => by
        obtain ⟨h3, _⟩ := hf i hi
        rw [hz] at h3
        obtain ⟨_, hlen, hcell⟩ := World.cells?_some h3
        refine ⟨hlen, fun j hj => ?_⟩
        have := hcell j hj
        rw [Go.Deep.add_add, Go.AX.add_plain] at this
        exact this
      have hrow : ∀ (i : Nat) (r : List Value), ((List.range len).map f)[i]? = some r → i < len ∧ r = f i := fun i r hr => by
        rw [List.getElem?_map] at hr
        obtain ⟨j, hj, rfl⟩ := Option.map_eq_some_iff.1 hr
        have hi : i < len := by
          rcases Nat.lt_or_ge i len with h | h
          · exact h
          · rw [List.getElem?_eq_none (by simpa using h)] at hj; cases hj
        rw [List.getElem?_range hi] at hj
        cases hj; exact ⟨hi, rfl⟩
      have hlt : ∀ {off : Nat} {c : Value}, w.cell? ⟨b, off, none⟩ = some c → b < w.heap.size := fun {off c} hcc => by
        unfold World.cell? at hcc
        rcases Nat.lt_or_ge b w.heap.size with h | h
        · exact h
        · simp only at hcc; rw [Array.getElem?_eq_none h] at hcc; cases hcc
      refine ⟨some ⟨b, o, none⟩, len, cap, (List.range len).map f, rfl, by simp, ⟨by simpa using hle, by simp [IntKind.max, IntKind.signed, IntKind.bits] at hcap ⊢; omega, fun _ _ => ⟨b, o, rfl⟩, ?_, ?_⟩, ?_⟩
      · intro b' o' hb' i j r c hr hc
        cases hb'
        obtain ⟨hi, rfl⟩ := hrow i r hr
        obtain ⟨q1, q2⟩ := hcell i hi
        have hj : j < sz := by
          rw [← q1]
          rcases Nat.lt_or_ge j (f i).length with h | h
          · exact h
          · rw [List.getElem?_eq_none h] at hc; cases hc
        have := q2 j hj
        rw [hc] at this
        show (if b < w.heap.size then w.cell? ⟨b, o + (i * sz + j), none⟩ else none) = some c
        rw [if_pos (hlt this)]; exact this
      · intro b' o' hb' i r hr
        cases hb'
        obtain ⟨hi, rfl⟩ := hrow i r hr
        obtain ⟨q1, q2⟩ := hcell i hi
        have hbr := baseRow_of (w := w) (b := b) (f i) (o + i * sz) (fun j hj => by rw [show o + i * sz + j = o + (i * sz + j) from by omega]; exact q2 j (by omega))
        have h00 := q2 0 (by omega)
        have hb2 : b < w.heap.size := hlt (h00.trans (List.getElem?_eq_getElem (by omega)))
        show (if b < w.heap.size then baseRow w b (o + i * sz) sz else none) = some (f i)
        rw [if_pos hb2]
        rw [q1] at hbr; exact hbr
      · intro i r hr
        obtain ⟨hi, rfl⟩ := hrow i r hr
        obtain ⟨q1, q2⟩ := hcell i hi
        obtain ⟨_, x, hx'⟩ := hf i hi
        exact ⟨q1, leafy n 20 e (f i) ts x hl hx' (by rw [q1, hz]) (by rw [hts, hz])⟩
/-- A slice that is trodden, by its rows: an empty one may lie anywhere. -/
theorem open_slcT {w : World} {t e sz : Nat} {v : Value} {y : DataW HT × List MemPlace} {sp : Nat → Bool} {held : Bool} {ts : List TypeId} (hu : P.underlying t = some (.slice e)) (hz : P.cellsOf e = sz) (h0 : sz ≠ 0)
    (hl : leafTs P 20 e = some ts) (hts : ts.length = sz) (h : ∃ fuel, DataW.trod enc P w 0 sp held fuel t [v] = some y) :
    ∃ base n cap R, v = .slice base n cap ∧ R.length = n ∧ SlcIn ⟨w, []⟩ sz base cap R ∧ ∀ (i : Nat) (r : List Value), R[i]? = some r → r.length = sz ∧ Leafy enc P w 0 sp held ts r := by
  obtain ⟨d, ps⟩ := y
  obtain ⟨fuel, h⟩ := h
  rcases Go.Deep.open_slice hu h with ⟨h1, _⟩ | ⟨a, len, cap, m, n, D, Pl, h1, hb, hle, hm, hmm, _, hx⟩
  · cases h1
    exact ⟨none, 0, 0, [], rfl, rfl, ⟨by simp, by simp, fun i hi => by simp at hi, fun b o hb => (by cases hb), fun b o hb => (by cases hb)⟩, fun i r hr => by simp at hr⟩
  · cases h1
    have hcap : cap < 9223372036854775808 := by
      have : maxLen < 9223372036854775808 := by decide
      omega
    by_cases hlen : len = 0
    · subst hlen
      exact ⟨some a, 0, cap, [], rfl, rfl, ⟨by simp, by simp, fun i hi => by simp at hi, fun b o _ i j r c h1 _ => by simp at h1, fun b o _ i r h1 => by simp at h1⟩, fun i r hr => by simp at hr⟩
    · obtain ⟨b, o, spot⟩ := a
      have hsp : spot = none := by
        obtain ⟨cs', h3, _⟩ := hx 0 (by rw [hmm]; split <;> omega)
        rw [hz] at h3
        obtain ⟨_, hlen', hcell⟩ := World.cells?_some h3
        have h4 := hcell 0 (by omega)
        cases spot with
        | none => rfl
        | some q =>
          rw [List.getElem?_eq_getElem (by omega)] at h4
          simp only [Nat.zero_mul] at h4
          unfold World.cell? at h4
          split at h4
          · have : ((Addr.add (Addr.add ⟨b, o, some q⟩ 0) 0).spot.isSome) = true := rfl
            rw [this] at h4; simp at h4
          · cases h4
      subst hsp
      have hlm : len ≤ m := by rw [hmm]; split <;> omega
      obtain ⟨f, hf⟩ := Go.Deep.choose_lt (n := len) (p := fun i cs' => w.cells? 0 ((⟨b, o, none⟩ : Addr).add (i * P.cellsOf e)) (P.cellsOf e) = some cs' ∧ ∃ x, DataW.trod enc P w 0 sp held n e cs' = some x)
        (fun i hi => by obtain ⟨cs', h3, h4⟩ := hx i (by omega); exact ⟨cs', h3, _, h4⟩)
      have hcell : ∀ i, i < len → (f i).length = sz ∧ ∀ j, j < sz → w.cell? ⟨b, o + (i * sz + j), none⟩ = (f i)[j]? := fun i hi => by
        obtain ⟨h3, _⟩ := hf i hi
        rw [hz] at h3
        obtain ⟨_, hlen, hcell⟩ := World.cells?_some h3
        refine ⟨hlen, fun j hj => ?_⟩
        have := hcell j hj
        rw [Go.Deep.add_add, Go.AX.add_plain] at this
        exact this
      have hrow : ∀ (i : Nat) (r : List Value), ((List.range len).map f)[i]? = some r → i < len ∧ r = f i := fun i r hr => by
        rw [List.getElem?_map] at hr
        obtain ⟨j, hj, rfl⟩ := Option.map_eq_some_iff.1 hr
        have hi : i < len := by
          rcases Nat.lt_or_ge i len with h | h
          · exact h
          · rw [List.getElem?_eq_none (by simpa using h)] at hj; cases hj
        rw [List.getElem?_range hi] at hj
        cases hj; exact ⟨hi, rfl⟩
      have hlt : ∀ {off : Nat} {c : Value}, w.cell? ⟨b, off, none⟩ = some c → b < w.heap.size := fun {off c} hcc => by
        unfold World.cell? at hcc
        rcases Nat.lt_or_ge b w.heap.size with h | h
        · exact h
        · simp only at hcc; rw [Array.getElem?_eq_none h] at hcc; cases hcc
      refine ⟨some ⟨b, o, none⟩, len, cap, (List.range len).map f, rfl, by simp, ⟨by simpa using hle, by simp only [List.length_map, List.length_range]; omega, fun _ _ => ⟨b, o, rfl⟩, ?_, ?_⟩, ?_⟩
      · intro b' o' hb' i j r c hr hc
        cases hb'
        obtain ⟨hi, rfl⟩ := hrow i r hr
        obtain ⟨q1, q2⟩ := hcell i hi
        have hj : j < sz := by
          rw [← q1]
          rcases Nat.lt_or_ge j (f i).length with h | h
          · exact h
          · rw [List.getElem?_eq_none h] at hc; cases hc
        have := q2 j hj
        rw [hc] at this
        show (if b < w.heap.size then w.cell? ⟨b, o + (i * sz + j), none⟩ else none) = some c
        rw [if_pos (hlt this)]; exact this
      · intro b' o' hb' i r hr
        cases hb'
        obtain ⟨hi, rfl⟩ := hrow i r hr
        obtain ⟨q1, q2⟩ := hcell i hi
        have hbr := baseRow_of (w := w) (b := b) (f i) (o + i * sz) (fun j hj => by rw [show o + i * sz + j = o + (i * sz + j) from by omega]; exact q2 j (by omega))
        have h00 := q2 0 (by omega)
        have hb2 : b < w.heap.size := hlt (h00.trans (List.getElem?_eq_getElem (by omega)))
        show (if b < w.heap.size then baseRow w b (o + i * sz) sz else none) = some (f i)
        rw [if_pos hb2]
        rw [q1] at hbr; exact hbr
      · intro i r hr
        obtain ⟨hi, rfl⟩ := hrow i r hr
        obtain ⟨q1, q2⟩ := hcell i hi
        obtain ⟨_, x, hx'⟩ := hf i hi
        exact ⟨q1, leafy n 20 e (f i) ts x hl hx' (by rw [q1, hz]) (by rw [hts, hz])⟩
theorem cell_slc {w : World} {r : Reach} {b0 t e : Nat} {v : Value} (hu : P.underlying t = some (.slice e)) (hv : Value.okWide P w r b0 t v) : Cell.okWide P w r b0 t v := by
  simp only [Value.okWide, hu] at hv
  exact hv
theorem cells_slc {w : World} {r : Reach} {b0 t e : Nat} {v : Value} (hu : P.underlying t = some (.slice e)) (hv : Cell.okWide P w r b0 t v) : v.cells.toList = [v] := by
  unfold Cell.okWide at hv
  rw [hu] at hv
  unfold Cell.ok at hv
  rw [hu] at hv
  cases v <;> first | rfl | simp at hv
/-- A slice among the arguments, by its rows. -/
theorem open_slc {w : World} {r : Reach} {b0 t e sz : Nat} {v : Value} {d : DataW HT} {ps : List MemPlace} {sp : Nat → Bool} {held : Bool} {ts : List TypeId} (hu : P.underlying t = some (.slice e)) (hz : P.cellsOf e = sz) (h0 : sz ≠ 0)
    (hl : leafTs P 20 e = some ts) (hts : ts.length = sz) (hv : Value.okWide P w r b0 t v) (h : DataW.Trod enc P w 0 sp held t v d ps) :
    ∃ base n cap R, v = .slice base n cap ∧ R.length = n ∧ SlcIn ⟨w, []⟩ sz base cap R ∧ ∀ (i : Nat) (r : List Value), R[i]? = some r → r.length = sz ∧ Leafy enc P w 0 sp held ts r := by
  obtain ⟨fuel, h⟩ := h
  rw [cells_slc hu (cell_slc hu hv)] at h
  exact open_slcC hu hz h0 hl hts (cell_slc hu hv) ⟨fuel, h⟩
/-- A struct among the arguments, by its cells. -/
theorem open_flat {w : World} {r : Reach} {b0 t sz : Nat} {fs : Array Field} {v : Value} {d : DataW HT} {ps : List MemPlace} {sp : Nat → Bool} {held : Bool} {ts : List TypeId} (hs : P.underlying t = some (.struct fs)) (hz : P.cellsOf t = sz)
    (hl : leafTs P 20 t = some ts) (hts : ts.length = sz) (hv : Value.okWide P w r b0 t v) (h : DataW.Trod enc P w 0 sp held t v d ps) :
    ∃ cs : List Value, v = .agg cs.toArray ∧ cs.length = sz ∧ Leafy enc P w 0 sp held ts cs := by
  obtain ⟨cs, rfl, hsz⟩ := Go.WideShapes.okWide_struct hs hv
  obtain ⟨fuel, h⟩ := h
  exact ⟨cs.toList, by simp, by simp [hsz, hz], leafy fuel 20 t cs.toList ts _ hl h (by simp [hsz]) (by rw [hts, hz])⟩
/-- A field of one cell of a struct among the arguments. -/
theorem okw_cell {w : World} {r : Reach} {b0 t u i : Nat} {fs : Array Field} {cs : Array Value} {v : Value} {ts : List TypeId} (hs : P.underlying t = some (.struct fs)) (hv : Value.okWide P w r b0 t (.agg cs)) (hts : P.cellTypes P.depth t = some ts) (hu : ts[i]? = some u) (hi : cs[i]? = some v) : Cell.okWide P w r b0 u v := by
  simp only [Value.okWide, hs] at hv
  obtain ⟨cs', h1, h2, ts', h3, h4, h5⟩ := hv
  cases h1
  rw [hts] at h3; cases h3
  obtain ⟨u', h6, h7⟩ := h5 i v hi
  have hlt : i < ts.length := by
    rcases Nat.lt_or_ge i ts.length with h | h
    · exact h
    · rw [List.getElem?_eq_none h] at hu; cases hu
  rw [Nat.mod_eq_of_lt hlt, hu] at h6
  cases h6; exact h7

theorem list6 {α : Type} {l : List α} (h : l.length = 6) : ∃ x0 x1 x2 x3 x4 x5, l = [x0, x1, x2, x3, x4, x5] := by
  match l, h with
  | [x0, x1, x2, x3, x4, x5], _ => exact ⟨x0, x1, x2, x3, x4, x5, rfl⟩
theorem list7 {α : Type} {l : List α} (h : l.length = 7) : ∃ x0 x1 x2 x3 x4 x5 x6, l = [x0, x1, x2, x3, x4, x5, x6] := by
  match l, h with
  | [x0, x1, x2, x3, x4, x5, x6], _ => exact ⟨x0, x1, x2, x3, x4, x5, x6, rfl⟩
theorem list8 {α : Type} {l : List α} (h : l.length = 8) : ∃ x0 x1 x2 x3 x4 x5 x6 x7, l = [x0, x1, x2, x3, x4, x5, x6, x7] := by
  match l, h with
  | [x0, x1, x2, x3, x4, x5, x6, x7], _ => exact ⟨x0, x1, x2, x3, x4, x5, x6, x7, rfl⟩
theorem list9 {α : Type} {l : List α} (h : l.length = 9) : ∃ x0 x1 x2 x3 x4 x5 x6 x7 x8, l = [x0, x1, x2, x3, x4, x5, x6, x7, x8] := by
  match l, h with
  | [x0, x1, x2, x3, x4, x5, x6, x7, x8], _ => exact ⟨x0, x1, x2, x3, x4, x5, x6, x7, x8, rfl⟩
theorem list10 {α : Type} {l : List α} (h : l.length = 10) : ∃ x0 x1 x2 x3 x4 x5 x6 x7 x8 x9, l = [x0, x1, x2, x3, x4, x5, x6, x7, x8, x9] := by
  match l, h with
  | [x0, x1, x2, x3, x4, x5, x6, x7, x8, x9], _ => exact ⟨x0, x1, x2, x3, x4, x5, x6, x7, x8, x9, rfl⟩
theorem list11 {α : Type} {l : List α} (h : l.length = 11) : ∃ x0 x1 x2 x3 x4 x5 x6 x7 x8 x9 x10, l = [x0, x1, x2, x3, x4, x5, x6, x7, x8, x9, x10] := by
  match l, h with
  | [x0, x1, x2, x3, x4, x5, x6, x7, x8, x9, x10], _ => exact ⟨x0, x1, x2, x3, x4, x5, x6, x7, x8, x9, x10, rfl⟩
theorem list12 {α : Type} {l : List α} (h : l.length = 12) : ∃ x0 x1 x2 x3 x4 x5 x6 x7 x8 x9 x10 x11, l = [x0, x1, x2, x3, x4, x5, x6, x7, x8, x9, x10, x11] := by
  match l, h with
  | [x0, x1, x2, x3, x4, x5, x6, x7, x8, x9, x10, x11], _ => exact ⟨x0, x1, x2, x3, x4, x5, x6, x7, x8, x9, x10, x11, rfl⟩
theorem list13 {α : Type} {l : List α} (h : l.length = 13) : ∃ x0 x1 x2 x3 x4 x5 x6 x7 x8 x9 x10 x11 x12, l = [x0, x1, x2, x3, x4, x5, x6, x7, x8, x9, x10, x11, x12] := by
  match l, h with
  | [x0, x1, x2, x3, x4, x5, x6, x7, x8, x9, x10, x11, x12], _ => exact ⟨x0, x1, x2, x3, x4, x5, x6, x7, x8, x9, x10, x11, x12, rfl⟩
theorem list14 {α : Type} {l : List α} (h : l.length = 14) : ∃ x0 x1 x2 x3 x4 x5 x6 x7 x8 x9 x10 x11 x12 x13, l = [x0, x1, x2, x3, x4, x5, x6, x7, x8, x9, x10, x11, x12, x13] := by
  match l, h with
  | [x0, x1, x2, x3, x4, x5, x6, x7, x8, x9, x10, x11, x12, x13], _ => exact ⟨x0, x1, x2, x3, x4, x5, x6, x7, x8, x9, x10, x11, x12, x13, rfl⟩
theorem list15 {α : Type} {l : List α} (h : l.length = 15) : ∃ x0 x1 x2 x3 x4 x5 x6 x7 x8 x9 x10 x11 x12 x13 x14, l = [x0, x1, x2, x3, x4, x5, x6, x7, x8, x9, x10, x11, x12, x13, x14] := by
  match l, h with
  | [x0, x1, x2, x3, x4, x5, x6, x7, x8, x9, x10, x11, x12, x13, x14], _ => exact ⟨x0, x1, x2, x3, x4, x5, x6, x7, x8, x9, x10, x11, x12, x13, x14, rfl⟩
theorem list16 {α : Type} {l : List α} (h : l.length = 16) : ∃ x0 x1 x2 x3 x4 x5 x6 x7 x8 x9 x10 x11 x12 x13 x14 x15, l = [x0, x1, x2, x3, x4, x5, x6, x7, x8, x9, x10, x11, x12, x13, x14, x15] := by
  match l, h with
  | [x0, x1, x2, x3, x4, x5, x6, x7, x8, x9, x10, x11, x12, x13, x14, x15], _ => exact ⟨x0, x1, x2, x3, x4, x5, x6, x7, x8, x9, x10, x11, x12, x13, x14, x15, rfl⟩
theorem list17 {α : Type} {l : List α} (h : l.length = 17) : ∃ x0 x1 x2 x3 x4 x5 x6 x7 x8 x9 x10 x11 x12 x13 x14 x15 x16, l = [x0, x1, x2, x3, x4, x5, x6, x7, x8, x9, x10, x11, x12, x13, x14, x15, x16] := by
  match l, h with
  | [x0, x1, x2, x3, x4, x5, x6, x7, x8, x9, x10, x11, x12, x13, x14, x15, x16], _ => exact ⟨x0, x1, x2, x3, x4, x5, x6, x7, x8, x9, x10, x11, x12, x13, x14, x15, x16, rfl⟩
theorem list18 {α : Type} {l : List α} (h : l.length = 18) : ∃ x0 x1 x2 x3 x4 x5 x6 x7 x8 x9 x10 x11 x12 x13 x14 x15 x16 x17, l = [x0, x1, x2, x3, x4, x5, x6, x7, x8, x9, x10, x11, x12, x13, x14, x15, x16, x17] := by
  match l, h with
  | [x0, x1, x2, x3, x4, x5, x6, x7, x8, x9, x10, x11, x12, x13, x14, x15, x16, x17], _ => exact ⟨x0, x1, x2, x3, x4, x5, x6, x7, x8, x9, x10, x11, x12, x13, x14, x15, x16, x17, rfl⟩
theorem list19 {α : Type} {l : List α} (h : l.length = 19) : ∃ x0 x1 x2 x3 x4 x5 x6 x7 x8 x9 x10 x11 x12 x13 x14 x15 x16 x17 x18, l = [x0, x1, x2, x3, x4, x5, x6, x7, x8, x9, x10, x11, x12, x13, x14, x15, x16, x17, x18] := by
  match l, h with
  | [x0, x1, x2, x3, x4, x5, x6, x7, x8, x9, x10, x11, x12, x13, x14, x15, x16, x17, x18], _ => exact ⟨x0, x1, x2, x3, x4, x5, x6, x7, x8, x9, x10, x11, x12, x13, x14, x15, x16, x17, x18, rfl⟩
theorem list20 {α : Type} {l : List α} (h : l.length = 20) : ∃ x0 x1 x2 x3 x4 x5 x6 x7 x8 x9 x10 x11 x12 x13 x14 x15 x16 x17 x18 x19, l = [x0, x1, x2, x3, x4, x5, x6, x7, x8, x9, x10, x11, x12, x13, x14, x15, x16, x17, x18, x19] := by
  match l, h with
  | [x0, x1, x2, x3, x4, x5, x6, x7, x8, x9, x10, x11, x12, x13, x14, x15, x16, x17, x18, x19], _ => exact ⟨x0, x1, x2, x3, x4, x5, x6, x7, x8, x9, x10, x11, x12, x13, x14, x15, x16, x17, x18, x19, rfl⟩
theorem list21 {α : Type} {l : List α} (h : l.length = 21) : ∃ x0 x1 x2 x3 x4 x5 x6 x7 x8 x9 x10 x11 x12 x13 x14 x15 x16 x17 x18 x19 x20, l = [x0, x1, x2, x3, x4, x5, x6, x7, x8, x9, x10, x11, x12, x13, x14, x15, x16, x17, x18, x19, x20] := by
  match l, h with
  | [x0, x1, x2, x3, x4, x5, x6, x7, x8, x9, x10, x11, x12, x13, x14, x15, x16, x17, x18, x19, x20], _ => exact ⟨x0, x1, x2, x3, x4, x5, x6, x7, x8, x9, x10, x11, x12, x13, x14, x15, x16, x17, x18, x19, x20, rfl⟩
theorem list22 {α : Type} {l : List α} (h : l.length = 22) : ∃ x0 x1 x2 x3 x4 x5 x6 x7 x8 x9 x10 x11 x12 x13 x14 x15 x16 x17 x18 x19 x20 x21, l = [x0, x1, x2, x3, x4, x5, x6, x7, x8, x9, x10, x11, x12, x13, x14, x15, x16, x17, x18, x19, x20, x21] := by
  match l, h with
  | [x0, x1, x2, x3, x4, x5, x6, x7, x8, x9, x10, x11, x12, x13, x14, x15, x16, x17, x18, x19, x20, x21], _ => exact ⟨x0, x1, x2, x3, x4, x5, x6, x7, x8, x9, x10, x11, x12, x13, x14, x15, x16, x17, x18, x19, x20, x21, rfl⟩
theorem list23 {α : Type} {l : List α} (h : l.length = 23) : ∃ x0 x1 x2 x3 x4 x5 x6 x7 x8 x9 x10 x11 x12 x13 x14 x15 x16 x17 x18 x19 x20 x21 x22, l = [x0, x1, x2, x3, x4, x5, x6, x7, x8, x9, x10, x11, x12, x13, x14, x15, x16, x17, x18, x19, x20, x21, x22] := by
  match l, h with
  | [x0, x1, x2, x3, x4, x5, x6, x7, x8, x9, x10, x11, x12, x13, x14, x15, x16, x17, x18, x19, x20, x21, x22], _ => exact ⟨x0, x1, x2, x3, x4, x5, x6, x7, x8, x9, x10, x11, x12, x13, x14, x15, x16, x17, x18, x19, x20, x21, x22, rfl⟩
theorem list24 {α : Type} {l : List α} (h : l.length = 24) : ∃ x0 x1 x2 x3 x4 x5 x6 x7 x8 x9 x10 x11 x12 x13 x14 x15 x16 x17 x18 x19 x20 x21 x22 x23, l = [x0, x1, x2, x3, x4, x5, x6, x7, x8, x9, x10, x11, x12, x13, x14, x15, x16, x17, x18, x19, x20, x21, x22, x23] := by
  match l, h with
  | [x0, x1, x2, x3, x4, x5, x6, x7, x8, x9, x10, x11, x12, x13, x14, x15, x16, x17, x18, x19, x20, x21, x22, x23], _ => exact ⟨x0, x1, x2, x3, x4, x5, x6, x7, x8, x9, x10, x11, x12, x13, x14, x15, x16, x17, x18, x19, x20, x21, x22, x23, rfl⟩
theorem list1 {α : Type} {l : List α} (h : l.length = 1) : ∃ x0, l = [x0] := by
  match l, h with
  | [x0], _ => exact ⟨x0, rfl⟩
theorem list2 {α : Type} {l : List α} (h : l.length = 2) : ∃ x0 x1, l = [x0, x1] := by
  match l, h with
  | [x0, x1], _ => exact ⟨x0, x1, rfl⟩
theorem list3 {α : Type} {l : List α} (h : l.length = 3) : ∃ x0 x1 x2, l = [x0, x1, x2] := by
  match l, h with
  | [x0, x1, x2], _ => exact ⟨x0, x1, x2, rfl⟩
theorem list4 {α : Type} {l : List α} (h : l.length = 4) : ∃ x0 x1 x2 x3, l = [x0, x1, x2, x3] := by
  match l, h with
  | [x0, x1, x2, x3], _ => exact ⟨x0, x1, x2, x3, rfl⟩
theorem list5 {α : Type} {l : List α} (h : l.length = 5) : ∃ x0 x1 x2 x3 x4, l = [x0, x1, x2, x3, x4] := by
  match l, h with
  | [x0, x1, x2, x3, x4], _ => exact ⟨x0, x1, x2, x3, x4, rfl⟩

end
end Go.AX
