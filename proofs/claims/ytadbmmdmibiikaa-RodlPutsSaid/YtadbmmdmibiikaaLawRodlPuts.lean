/- For every input RodlPuts answers true and leaves its arguments as they were. No condition. -/
import Derived.Test.YtadbmmdmibiikaaRodl10
import Derived.Test.YtadbmmdmibiikaaAx8
import Derived.Test.YtadbmmdmibiikaaRows
namespace Go.Proofs.Ytadbmmdmibiikaa.lawRodlPuts
set_option linter.unusedSimpArgs false
set_option linter.unusedVariables false
open Go Go.AX Go.ChangeShapes Go.WideShapes Go.ChangeAt Go.RowKit Go.Proofs.Ytadbmmdmibiikaa.Rodl

theorem own : ownKnob Try.prog.godebug = none := by kernel_rfl
theorem laidOut : laidOutB Try.prog = true := by kernel_rfl

set_option maxRecDepth 100000 in
theorem contract (H : Type) (enc : TypeId × Value → H) (W : World) (base : Nat) (args : Array Value) (ds gs : List (DataW H)) (before : List MemPlace)
    (hval : ∀ (j : Nat) t v, Try.f10.params[j]? = some t → args[j]? = some v → Value.okWide Try.prog W .any base t v)
    (hW : DataW.Whole enc Try.prog Try.f10.params.toList Rows.rodlPutsSpec.vars false W args.toList ds gs before) :
    Calls Try.prog 10 args W fun e W' => ∃ v, e = .returned v ∧ Rows.rodlPutsSpec.post enc Try.prog Try.f10 false true false false W args v W' := by
  have hW' := hW
  obtain ⟨p, q, hA0, hV, rfl, hfz, hnd⟩ := hW
  have hA : DataW.TrodAll enc Try.prog W 0 (fun _ => true) true Try.f10.params.toList args.toList ds p := hA0
  rw [Try.params10] at hA hval
  obtain ⟨v0, v1, d0, d1, p0, p1, rfl, rfl, rfl, h0, h1⟩ := trodAll_two hA
  obtain ⟨rfl, rfl⟩ := trodVars_none hV
  obtain ⟨k0, k1⟩ := okw2 hval
  obtain ⟨cs0, rfl, hl0, hc0⟩ := open_flat (sz := 5) Try.underlying90 (by kernel_rfl) (show leafTs Try.prog 20 90 = some [3, 3, 3, 3, 3] by kernel_rfl) rfl k0 h0
  obtain ⟨c0_0, c0_1, c0_2, c0_3, c0_4, rfl⟩ := list5 hl0
  obtain ⟨_, _, t0_0⟩ := hc0 0 _ _ rfl rfl
  obtain ⟨a0_0, q0_0, _, w0_0⟩ := DataW.trod_int Try.underlying3 t0_0; cases q0_0
  obtain ⟨_, _, t0_1⟩ := hc0 1 _ _ rfl rfl
  obtain ⟨a0_1, q0_1, _, w0_1⟩ := DataW.trod_int Try.underlying3 t0_1; cases q0_1
  obtain ⟨_, _, t0_2⟩ := hc0 2 _ _ rfl rfl
  obtain ⟨a0_2, q0_2, _, w0_2⟩ := DataW.trod_int Try.underlying3 t0_2; cases q0_2
  obtain ⟨_, _, t0_3⟩ := hc0 3 _ _ rfl rfl
  obtain ⟨a0_3, q0_3, _, w0_3⟩ := DataW.trod_int Try.underlying3 t0_3; cases q0_3
  obtain ⟨_, _, t0_4⟩ := hc0 4 _ _ rfl rfl
  obtain ⟨a0_4, q0_4, _, w0_4⟩ := DataW.trod_int Try.underlying3 t0_4; cases q0_4
  obtain ⟨ns1, hn1, rfl, hw1⟩ := open_arr_int (P := Try.prog) Try.underlying64 Try.underlying5 (by kernel_rfl) (by kernel_rfl) k1 h1
  obtain ⟨x1_0, x1_1, x1_2, x1_3, rfl⟩ := list4 hn1
  exact law_post laidOut (by kernel_rfl) rfl rfl Try.underlying4 hW' rfl rfl rfl
    ((RodlPuts_c a0_0 a0_1 a0_2 a0_3 a0_4 x1_0 x1_1 x1_2 x1_3 (byte_wf (hw1 x1_0 (by simp))) (byte_wf (hw1 x1_1 (by simp))) (byte_wf (hw1 x1_2 (by simp))) (byte_wf (hw1 x1_3 (by simp))) _).mono fun v H' h => ⟨h.1, h.2 ▸ rfl⟩)

set_option maxRecDepth 100000 in
theorem lifted (os : Os) (started : os.Started) (H : Type) (enc : TypeId × Value → H) :
    ReturnsInHanded {} Try.checked os 10 .any (Rows.rodlPutsSpec.pre6 enc Try.prog Try.f10 Rows.rodlPutsRow.domain false) (Rows.rodlPutsSpec.post enc Try.prog Try.f10 false true false false) := by
  refine returnsInHanded_of_change_sized (C := Try.checked) own started (by kernel_rfl) Try.func10
    (ChangeSpec.witness6 (enc := enc) (C := Try.checked) false ⟨#[], #[.agg #[.int .i64 0, .int .i64 0, .int .i64 0, .int .i64 0, .int .i64 0], .agg #[.int .u8 0, .int .u8 0, .int .u8 0, .int .u8 0]], []⟩ 8 (by kernel_rfl) (by kernel_rfl) (by kernel_rfl) (by kernel_rfl)) ?_
  intro W base args ds gs before hval hW _ _ _
  exact contract H enc W base args ds gs before hval hW

theorem proved : Rows.RodlPutsSaid :=
  OpenClaim.holds_of_wide 10 Try.f10 rfl rfl rfl rfl rfl rfl rfl ⟨rfl, rfl, rfl, rfl, rfl⟩ rfl rfl rfl rfl rfl (by kernel_rfl) Try.func10 (by kernel_rfl)
    (of_decide_eq_true (by kernel_rfl)) (by unfold Func.isWrapper; rw [if_neg (by decide +kernel)]; exact ⟨rfl, rfl⟩)
    (fun os started H enc _ => lifted os started H enc)

end Go.Proofs.Ytadbmmdmibiikaa.lawRodlPuts
