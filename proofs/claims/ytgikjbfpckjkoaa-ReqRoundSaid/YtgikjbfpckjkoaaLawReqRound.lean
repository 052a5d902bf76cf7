/- For every input ReqRound answers true and leaves its arguments as they were. No condition. -/
import Derived.Test.YtgikjbfpckjkoaaReq8
import Derived.Test.YtgikjbfpckjkoaaAx8
import Derived.Test.YtgikjbfpckjkoaaRows
namespace Go.Proofs.Ytgikjbfpckjkoaa.lawReqRound
set_option linter.unusedSimpArgs false
set_option linter.unusedVariables false
open Go Go.AX Go.ChangeShapes Go.WideShapes Go.ChangeAt Go.RowKit Go.Proofs.Ytgikjbfpckjkoaa.Req

theorem own : ownKnob Try.prog.godebug = none := by kernel_rfl
theorem laidOut : laidOutB Try.prog = true := by kernel_rfl

set_option maxRecDepth 100000 in
theorem contract (H : Type) (enc : TypeId × Value → H) (W : World) (base : Nat) (args : Array Value) (ds gs : List (DataW H)) (before : List MemPlace)
    (hval : ∀ (j : Nat) t v, Try.f6.params[j]? = some t → args[j]? = some v → Value.okWide Try.prog W .any base t v)
    (hW : DataW.Whole enc Try.prog Try.f6.params.toList Rows.reqRoundSpec.vars false W args.toList ds gs before) :
    Calls Try.prog 6 args W fun e W' => ∃ v, e = .returned v ∧ Rows.reqRoundSpec.post enc Try.prog Try.f6 false true false false W args v W' := by
  have hW' := hW
  obtain ⟨p, q, hA0, hV, rfl, hfz, hnd⟩ := hW
  have hA : DataW.TrodAll enc Try.prog W 0 (fun _ => true) true Try.f6.params.toList args.toList ds p := hA0
  rw [Try.params6] at hA hval
  obtain ⟨v0, v1, v2, d0, d1, d2, p0, p1, p2, rfl, rfl, rfl, h0, h1, h2⟩ := trodAll_three hA
  obtain ⟨rfl, rfl⟩ := trodVars_none hV
  obtain ⟨k0, k1, k2⟩ := okw3 hval
  obtain ⟨cs0, rfl, hl0, hc0⟩ := open_flat (sz := 10) Try.underlying43 (by kernel_rfl) (show leafTs Try.prog 20 43 = some [3, 3, 3, 3, 3, 5, 5, 5, 5, 3] by kernel_rfl) rfl k0 h0
  obtain ⟨c0_0, c0_1, c0_2, c0_3, c0_4, c0_5, c0_6, c0_7, c0_8, c0_9, rfl⟩ := list10 hl0
  obtain ⟨_, _, t0_0⟩ := hc0 0 _ _ rfl rfl
  obtain ⟨a0_0, q0_0, _, w0_0⟩ := DataW.trod_int Try.underlying3 t0_0; cases q0_0
  obtain ⟨_, _, t0_1⟩ := hc0 1 _ _ rfl rfl
  obtain ⟨a0_1, q0_1, _, w0_1⟩ := DataW.trod_int Try.underlying3 t0_1; cases q0_1
  obtain ⟨_, _, t0_2⟩ := hc0 2 _ _ rfl rfl
  obtain ⟨a0_2, q0_2, _, w0_2⟩ := DataW.trod_int Try.underlying3 t0_2; cases q0_2
  obtain ⟨_, _, t0_3⟩ := hc0 3 _ _ rfl rfl
  obtain ⟨a0_3, q0_3, _, w0_3⟩ := DataW.trod_int Try.underlying3 t0_3; cases q0_3
  obtain ⟨_, _, t0_4⟩ := hc0 4 _ _ rfl rfl
  obtain ⟨a0_4, q0_4, _, w0_4⟩ := DataW.trod_int Try.underlying3 t0_4; cases q0_4
  obtain ⟨_, _, t0_5⟩ := hc0 5 _ _ rfl rfl
  obtain ⟨a0_5, q0_5, _, w0_5⟩ := DataW.trod_int Try.underlying5 t0_5; cases q0_5
  obtain ⟨_, _, t0_6⟩ := hc0 6 _ _ rfl rfl
  obtain ⟨a0_6, q0_6, _, w0_6⟩ := DataW.trod_int Try.underlying5 t0_6; cases q0_6
  obtain ⟨_, _, t0_7⟩ := hc0 7 _ _ rfl rfl
  obtain ⟨a0_7, q0_7, _, w0_7⟩ := DataW.trod_int Try.underlying5 t0_7; cases q0_7
  obtain ⟨_, _, t0_8⟩ := hc0 8 _ _ rfl rfl
  obtain ⟨a0_8, q0_8, _, w0_8⟩ := DataW.trod_int Try.underlying5 t0_8; cases q0_8
  obtain ⟨_, _, t0_9⟩ := hc0 9 _ _ rfl rfl
  obtain ⟨a0_9, q0_9, _, w0_9⟩ := DataW.trod_int Try.underlying3 t0_9; cases q0_9
  obtain ⟨cs1, rfl, hl1, hc1⟩ := open_flat (sz := 6) Try.underlying56 (by kernel_rfl) (show leafTs Try.prog 20 56 = some [3, 28, 5, 5, 5, 5] by kernel_rfl) rfl k1 h1
  obtain ⟨c1_0, c1_1, c1_2, c1_3, c1_4, c1_5, rfl⟩ := list6 hl1
  obtain ⟨_, _, t1_0⟩ := hc1 0 _ _ rfl rfl
  obtain ⟨a1_0, q1_0, _, w1_0⟩ := DataW.trod_int Try.underlying3 t1_0; cases q1_0
  obtain ⟨_, _, t1_1⟩ := hc1 1 _ _ rfl rfl
  obtain ⟨a1_1, q1_1, _, w1_1⟩ := DataW.trod_int Try.underlying28 t1_1; cases q1_1
  obtain ⟨_, _, t1_2⟩ := hc1 2 _ _ rfl rfl
  obtain ⟨a1_2, q1_2, _, w1_2⟩ := DataW.trod_int Try.underlying5 t1_2; cases q1_2
  obtain ⟨_, _, t1_3⟩ := hc1 3 _ _ rfl rfl
  obtain ⟨a1_3, q1_3, _, w1_3⟩ := DataW.trod_int Try.underlying5 t1_3; cases q1_3
  obtain ⟨_, _, t1_4⟩ := hc1 4 _ _ rfl rfl
  obtain ⟨a1_4, q1_4, _, w1_4⟩ := DataW.trod_int Try.underlying5 t1_4; cases q1_4
  obtain ⟨_, _, t1_5⟩ := hc1 5 _ _ rfl rfl
  obtain ⟨a1_5, q1_5, _, w1_5⟩ := DataW.trod_int Try.underlying5 t1_5; cases q1_5
  obtain ⟨bs2, n2, cp2, R2, rfl, hl2, hs2, hR2⟩ := open_slc (P := Try.prog) (sz := 1) Try.underlying44 (by kernel_rfl) (by simp) (show leafTs Try.prog 20 5 = some [5] by kernel_rfl) rfl k2 h2
  obtain ⟨L2, rfl, hw2⟩ := rows_of (f := encB) (G := fun s => (Lit.int .u8 s).wf = true) (fun i r hr => by
    obtain ⟨hl, hc⟩ := hR2 i r hr
    obtain ⟨c0, rfl⟩ := list1 hl
    obtain ⟨_, _, t0⟩ := hc 0 _ _ rfl rfl
    obtain ⟨a0, q0, _, w0⟩ := DataW.trod_int Try.underlying5 t0; cases q0
    exact ⟨a0, rfl, w0⟩)
  rw [List.length_map] at hl2; subst hl2
  exact law_post laidOut (by kernel_rfl) rfl rfl Try.underlying4 hW' rfl rfl rfl
    ((ReqRound_l a0_0 a0_1 a0_2 a0_3 a0_4 a0_5 w0_5 a0_6 w0_6 a0_7 w0_7 a0_8 w0_8 a0_9 a1_0 a1_1 a1_2 w1_2 a1_3 w1_3 a1_4 w1_4 a1_5 w1_5 L2 bs2 cp2 _ hs2 hw2).mono fun v H' h => ⟨h.1, h.2 ▸ rfl⟩)

set_option maxRecDepth 100000 in
theorem lifted (os : Os) (started : os.Started) (H : Type) (enc : TypeId × Value → H) :
    ReturnsInHanded {} Try.checked os 6 .any (Rows.reqRoundSpec.pre6 enc Try.prog Try.f6 Rows.reqRoundRow.domain false) (Rows.reqRoundSpec.post enc Try.prog Try.f6 false true false false) := by
  refine returnsInHanded_of_change_sized (C := Try.checked) own started (by kernel_rfl) Try.func6
    (ChangeSpec.witness6 (enc := enc) (C := Try.checked) false ⟨#[], #[.agg #[.int .i64 0, .int .i64 0, .int .i64 0, .int .i64 0, .int .i64 0, .int .u8 0, .int .u8 0, .int .u8 0, .int .u8 0, .int .i64 0], .agg #[.int .i64 0, .int .i64 0, .int .u8 0, .int .u8 0, .int .u8 0, .int .u8 0], .slice none 0 0], []⟩ 8 (by kernel_rfl) (by kernel_rfl) (by kernel_rfl) (by kernel_rfl)) ?_
  intro W base args ds gs before hval hW _ _ _
  exact contract H enc W base args ds gs before hval hW

theorem proved : Rows.ReqRoundSaid :=
  OpenClaim.holds_of_wide 6 Try.f6 rfl rfl rfl rfl rfl rfl rfl ⟨rfl, rfl, rfl, rfl, rfl⟩ rfl rfl rfl rfl rfl (by kernel_rfl) Try.func6 (by kernel_rfl)
    (of_decide_eq_true (by kernel_rfl)) (by unfold Func.isWrapper; rw [if_neg (by decide +kernel)]; exact ⟨rfl, rfl⟩)
    (fun os started H enc _ => lifted os started H enc)

end Go.Proofs.Ytgikjbfpckjkoaa.lawReqRound
