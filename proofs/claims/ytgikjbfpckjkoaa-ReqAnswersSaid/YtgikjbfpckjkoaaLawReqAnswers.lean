/- For every input ReqAnswers answers true and leaves its arguments as they were. No condition. -/
import Derived.Test.YtgikjbfpckjkoaaReq7
import Derived.Test.YtgikjbfpckjkoaaAx8
import Derived.Test.YtgikjbfpckjkoaaRows
namespace Go.Proofs.Ytgikjbfpckjkoaa.lawReqAnswers
set_option linter.unusedSimpArgs false
set_option linter.unusedVariables false
open Go Go.AX Go.ChangeShapes Go.WideShapes Go.ChangeAt Go.RowKit Go.Proofs.Ytgikjbfpckjkoaa.Req

theorem own : ownKnob Try.prog.godebug = none := by kernel_rfl
theorem laidOut : laidOutB Try.prog = true := by kernel_rfl

set_option maxRecDepth 100000 in
theorem contract (H : Type) (enc : TypeId × Value → H) (W : World) (base : Nat) (args : Array Value) (ds gs : List (DataW H)) (before : List MemPlace)
    (hval : ∀ (j : Nat) t v, Try.f5.params[j]? = some t → args[j]? = some v → Value.okWide Try.prog W .any base t v)
    (hW : DataW.Whole enc Try.prog Try.f5.params.toList Rows.reqAnswersSpec.vars false W args.toList ds gs before) :
    Calls Try.prog 5 args W fun e W' => ∃ v, e = .returned v ∧ Rows.reqAnswersSpec.post enc Try.prog Try.f5 false true false false W args v W' := by
  have hW' := hW
  obtain ⟨p, q, hA0, hV, rfl, hfz, hnd⟩ := hW
  have hA : DataW.TrodAll enc Try.prog W 0 (fun _ => true) true Try.f5.params.toList args.toList ds p := hA0
  rw [Try.params5] at hA hval
  obtain ⟨v0, v1, d0, d1, p0, p1, rfl, rfl, rfl, h0, h1⟩ := trodAll_two hA
  obtain ⟨rfl, rfl⟩ := trodVars_none hV
  obtain ⟨k0, k1⟩ := okw2 hval
  obtain ⟨cs0, rfl, hl0, hc0⟩ := open_flat (sz := 6) Try.underlying56 (by kernel_rfl) (show leafTs Try.prog 20 56 = some [3, 28, 5, 5, 5, 5] by kernel_rfl) rfl k0 h0
  obtain ⟨c0_0, c0_1, c0_2, c0_3, c0_4, c0_5, rfl⟩ := list6 hl0
  obtain ⟨_, _, t0_0⟩ := hc0 0 _ _ rfl rfl
  obtain ⟨a0_0, q0_0, _, w0_0⟩ := DataW.trod_int Try.underlying3 t0_0; cases q0_0
  obtain ⟨_, _, t0_1⟩ := hc0 1 _ _ rfl rfl
  obtain ⟨a0_1, q0_1, _, w0_1⟩ := DataW.trod_int Try.underlying28 t0_1; cases q0_1
  obtain ⟨_, _, t0_2⟩ := hc0 2 _ _ rfl rfl
  obtain ⟨a0_2, q0_2, _, w0_2⟩ := DataW.trod_int Try.underlying5 t0_2; cases q0_2
  obtain ⟨_, _, t0_3⟩ := hc0 3 _ _ rfl rfl
  obtain ⟨a0_3, q0_3, _, w0_3⟩ := DataW.trod_int Try.underlying5 t0_3; cases q0_3
  obtain ⟨_, _, t0_4⟩ := hc0 4 _ _ rfl rfl
  obtain ⟨a0_4, q0_4, _, w0_4⟩ := DataW.trod_int Try.underlying5 t0_4; cases q0_4
  obtain ⟨_, _, t0_5⟩ := hc0 5 _ _ rfl rfl
  obtain ⟨a0_5, q0_5, _, w0_5⟩ := DataW.trod_int Try.underlying5 t0_5; cases q0_5
  obtain ⟨bs1, n1, cp1, R1, rfl, hl1, hs1, hR1⟩ := open_slc (P := Try.prog) (sz := 1) Try.underlying44 (by kernel_rfl) (by simp) (show leafTs Try.prog 20 5 = some [5] by kernel_rfl) rfl k1 h1
  obtain ⟨L1, rfl, hw1⟩ := rows_of (f := encB) (G := fun s => (Lit.int .u8 s).wf = true) (fun i r hr => by
    obtain ⟨hl, hc⟩ := hR1 i r hr
    obtain ⟨c0, rfl⟩ := list1 hl
    obtain ⟨_, _, t0⟩ := hc 0 _ _ rfl rfl
    obtain ⟨a0, q0, _, w0⟩ := DataW.trod_int Try.underlying5 t0; cases q0
    exact ⟨a0, rfl, w0⟩)
  rw [List.length_map] at hl1; subst hl1
  exact law_post laidOut (by kernel_rfl) rfl rfl Try.underlying4 hW' rfl rfl rfl
    ((ReqAnswers_l a0_0 a0_1 a0_2 w0_2 a0_3 w0_3 a0_4 w0_4 a0_5 w0_5 L1 bs1 cp1 _ hs1 hw1).mono fun v H' h => ⟨h.1, h.2 ▸ rfl⟩)

set_option maxRecDepth 100000 in
theorem lifted (os : Os) (started : os.Started) (H : Type) (enc : TypeId × Value → H) :
    ReturnsInHanded {} Try.checked os 5 .any (Rows.reqAnswersSpec.pre6 enc Try.prog Try.f5 Rows.reqAnswersRow.domain false) (Rows.reqAnswersSpec.post enc Try.prog Try.f5 false true false false) := by
  refine returnsInHanded_of_change_sized (C := Try.checked) own started (by kernel_rfl) Try.func5
    (ChangeSpec.witness6 (enc := enc) (C := Try.checked) false ⟨#[], #[.agg #[.int .i64 0, .int .i64 0, .int .u8 0, .int .u8 0, .int .u8 0, .int .u8 0], .slice none 0 0], []⟩ 8 (by kernel_rfl) (by kernel_rfl) (by kernel_rfl) (by kernel_rfl)) ?_
  intro W base args ds gs before hval hW _ _ _
  exact contract H enc W base args ds gs before hval hW

theorem proved : Rows.ReqAnswersSaid :=
  OpenClaim.holds_of_wide 5 Try.f5 rfl rfl rfl rfl rfl rfl rfl ⟨rfl, rfl, rfl, rfl, rfl⟩ rfl rfl rfl rfl rfl (by kernel_rfl) Try.func5 (by kernel_rfl)
    (of_decide_eq_true (by kernel_rfl)) (by unfold Func.isWrapper; rw [if_neg (by decide +kernel)]; exact ⟨rfl, rfl⟩)
    (fun os started H enc _ => lifted os started H enc)

end Go.Proofs.Ytgikjbfpckjkoaa.lawReqAnswers
