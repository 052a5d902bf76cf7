/- For every input MemberNotes answers true and leaves its arguments as they were. No condition. -/
import Derived.Test.YtgleplakdghaiaaMem10
import Derived.Test.YtgleplakdghaiaaAx21
import Derived.Test.YtgleplakdghaiaaRows
namespace Go.Proofs.Ytgleplakdghaiaa.lawMemberNotes
set_option linter.unusedSimpArgs false
set_option linter.unusedVariables false
open Go Go.AX Go.ChangeShapes Go.WideShapes Go.ChangeAt Go.RowKit Go.Proofs.Ytgleplakdghaiaa.Mem

theorem own : ownKnob Try.prog.godebug = none := by kernel_rfl
theorem laidOut : laidOutB Try.prog = true := by kernel_rfl

theorem u32_wf {x : Int} (h : (Lit.int .u32 x).wf = true) : 0 ≤ x ∧ x < 4294967296 := by
  simp [Lit.wf, IntKind.min, IntKind.max, IntKind.signed, IntKind.bits] at h
  omega

set_option maxRecDepth 100000 in
theorem contract (H : Type) (enc : TypeId × Value → H) (W : World) (base : Nat) (args : Array Value) (ds gs : List (DataW H)) (before : List MemPlace)
    (hval : ∀ (j : Nat) t v, Try.f3.params[j]? = some t → args[j]? = some v → Value.okWide Try.prog W .any base t v)
    (hW : DataW.Whole enc Try.prog Try.f3.params.toList Rows.memberNotesSpec.vars false W args.toList ds gs before)
    (hsz : (DataW.weightsEach Try.prog (Try.f3.params.toList ++ Rows.memberNotesSpec.plain.varTypes Try.prog) (ds ++ gs)).all (· ≤ reachBytes) = true) :
    Calls Try.prog 3 args W fun e W' => ∃ v, e = .returned v ∧ Rows.memberNotesSpec.post enc Try.prog Try.f3 false true false false W args v W' := by
  have hW' := hW
  obtain ⟨p, q, hA0, hV, rfl, hfz, hnd⟩ := hW
  have hA : DataW.TrodAll enc Try.prog W 0 (fun _ => true) true Try.f3.params.toList args.toList ds p := hA0
  rw [Try.params3] at hA hval hsz
  obtain ⟨v0, v1, d0, d1, p0, p1, rfl, rfl, rfl, h0, h1⟩ := trodAll_two hA
  obtain ⟨rfl, rfl⟩ := trodVars_none hV
  obtain ⟨k0, k1⟩ := okw2 hval
  obtain ⟨a0, rfl, rfl, rfl, w0⟩ := open_int Try.underlying3 k0 h0
  have hB : ∀ k ∈ d1.weights Try.prog 22, k ≤ reachBytes := fun k hk => by
    have := List.all_eq_true.1 hsz k (DataW.weights_mem_each (j := 1) rfl rfl k hk)
    simpa using this
  have h1' := h1
  obtain ⟨fuel, h1'⟩ := h1'
  rw [cells_slc Try.underlying22 (cell_slc Try.underlying22 k1)] at h1'
  obtain ⟨bs1, n1, cp1, R1, rfl, hl1, _, hs1, hR1⟩ := open_slcB (P := Try.prog) (sz := 2) (B := reachBytes) Try.underlying22 (by kernel_rfl) (by simp) ⟨fuel, h1'⟩ hB
  obtain ⟨L, rfl, hL⟩ := rows_of (f := Mem.encD) (G := fun d => TabIn ⟨W, []⟩ d.1 d.2.1 d.2.2.1 ∧ 0 ≤ d.2.2.2 ∧ d.2.2.2 < 4294967296) (fun i r hr => by
    obtain ⟨hl, n, x, hx, hxB⟩ := hR1 i r hr
    obtain ⟨c0, c1, rfl⟩ := list2 hl
    obtain ⟨y0, y1, n', rfl, _, ht0, ht1⟩ := trod_struct2 Try.underlying34 hx
    have z0 : ([c0, c1].drop 0).take (Try.prog.cellsOf 31) = [c0] := by rw [show Try.prog.cellsOf 31 = 1 from by kernel_rfl]; rfl
    have z1 : ([c0, c1].drop 1).take (Try.prog.cellsOf 32) = [c1] := by rw [show Try.prog.cellsOf 32 = 1 from by kernel_rfl]; rfl
    have e0 : DataW.trod enc Try.prog W 0 (fun _ => true) true n' 31 [c0] = some y0 := z0 ▸ ht0
    have e1 : DataW.trod enc Try.prog W 0 (fun _ => true) true n' 32 [c1] = some y1 := z1 ▸ ht1
    obtain ⟨a1, q1, _, w1⟩ := DataW.trod_int Try.underlying32 e1; cases q1
    have hB0 : ∀ k ∈ y0.1.weights Try.prog 31, k ≤ reachBytes := fun k hk => by
      refine hxB k ?_
      simp only [DataW.weights, Try.underlying34]
      exact List.mem_append.2 (Or.inl hk)
    obtain ⟨b2, n2, cp2, R2, rfl, hl2, _, hs2, hR2⟩ := open_slcB (P := Try.prog) (sz := 1) (B := reachBytes) Try.underlying31 (by kernel_rfl) (by simp) ⟨_, e0⟩ hB0
    obtain ⟨T, rfl, hT⟩ := rows_of (f := Mem.encT) (G := fun s => SlcIn ⟨W, []⟩ 5 s.1 s.2.1 (s.2.2.map Mem.encE) ∧ s.2.2.length ≤ 3518437208780) (fun i r hr => by
      obtain ⟨hl, n, x, hx, hxB⟩ := hR2 i r hr
      obtain ⟨c0, rfl⟩ := list1 hl
      obtain ⟨b3, n3, cp3, R3, rfl, hl3, hB3, hs3, hR3⟩ := open_slcB (P := Try.prog) (sz := 5) (B := reachBytes) Try.underlying51 (by kernel_rfl) (by simp) ⟨_, hx⟩ hxB
      obtain ⟨L3, rfl, hw3⟩ := rows_of (f := Mem.encE) (G := fun s => True) (fun i r hr => by
        obtain ⟨hl, n, x, hx, _⟩ := hR3 i r hr
        have hc := leafy (P := Try.prog) n 20 _ r _ x (show leafTs Try.prog 20 50 = some [3, 3, 3, 3, 3] by kernel_rfl) hx (by rw [hl]; kernel_rfl) (by kernel_rfl)
        obtain ⟨c0, c1, c2, c3, c4, rfl⟩ := list5 hl
        obtain ⟨_, _, t0⟩ := hc 0 _ _ rfl rfl
        obtain ⟨a0, q0, _, w0⟩ := DataW.trod_int Try.underlying3 t0; cases q0
        obtain ⟨_, _, t1⟩ := hc 1 _ _ rfl rfl
        obtain ⟨a1, q1, _, w1⟩ := DataW.trod_int Try.underlying3 t1; cases q1
        obtain ⟨_, _, t2⟩ := hc 2 _ _ rfl rfl
        obtain ⟨a2, q2, _, w2⟩ := DataW.trod_int Try.underlying3 t2; cases q2
        obtain ⟨_, _, t3⟩ := hc 3 _ _ rfl rfl
        obtain ⟨a3, q3, _, w3⟩ := DataW.trod_int Try.underlying3 t3; cases q3
        obtain ⟨_, _, t4⟩ := hc 4 _ _ rfl rfl
        obtain ⟨a4, q4, _, w4⟩ := DataW.trod_int Try.underlying3 t4; cases q4
        exact ⟨(a0, a1, a2, a3, a4), rfl, trivial⟩)
      rw [List.length_map] at hl3; subst hl3
      rw [List.length_map, show Try.prog.bytesOf 50 = 40 from by kernel_rfl] at hB3
      have hr : reachBytes < 2 ^ 47 := reachBytes_lt
      have hr2 : reachBytes / 40 = 3518437208780 := by decide
      refine ⟨(b3, cp3, L3), rfl, hs3, ?_⟩
      show L3.length ≤ 3518437208780
      rw [show reachBytes = 140737488351232 from by decide] at hB3
      omega)
    rw [List.length_map] at hl2; subst hl2
    exact ⟨(b2, cp2, T, a1), rfl, ⟨hs2, hT⟩, (u32_wf w1).1, (u32_wf w1).2⟩)
  rw [List.length_map] at hl1; subst hl1
  exact law_post laidOut (by kernel_rfl) rfl rfl Try.underlying4 hW' rfl rfl rfl
    ((MemberNotes_c a0 L bs1 cp1 _ ⟨hs1, hL⟩).mono fun v H' h => ⟨h.1, h.2 ▸ rfl⟩)

set_option maxRecDepth 100000 in
theorem lifted (os : Os) (started : os.Started) (H : Type) (enc : TypeId × Value → H) :
    ReturnsInHanded {} Try.checked os 3 .any (Rows.memberNotesSpec.pre6 enc Try.prog Try.f3 Rows.memberNotesRow.domain false) (Rows.memberNotesSpec.post enc Try.prog Try.f3 false true false false) := by
  refine returnsInHanded_of_change_sized (C := Try.checked) own started (by kernel_rfl) Try.func3
    (ChangeSpec.witness6 (enc := enc) (C := Try.checked) false ⟨#[], #[.int .i64 0, .slice none 0 0], []⟩ 8 (by kernel_rfl) (by kernel_rfl) (by kernel_rfl) (by kernel_rfl)) ?_
  intro W base args ds gs before hval hW _ hsz _
  exact contract H enc W base args ds gs before hval hW hsz

theorem proved : Rows.MemberNotesSaid :=
  OpenClaim.holds_of_wide 3 Try.f3 rfl rfl rfl rfl rfl rfl rfl ⟨rfl, rfl, rfl, rfl, rfl⟩ rfl rfl rfl rfl rfl (by kernel_rfl) Try.func3 (by kernel_rfl)
    (of_decide_eq_true (by kernel_rfl)) (by unfold Func.isWrapper; rw [if_neg (by decide +kernel)]; exact ⟨rfl, rfl⟩)
    (fun os started H enc _ => lifted os started H enc)

end Go.Proofs.Ytgleplakdghaiaa.lawMemberNotes
