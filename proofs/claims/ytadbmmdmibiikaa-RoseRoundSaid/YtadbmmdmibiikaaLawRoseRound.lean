/- For every input RoseRound answers true and leaves its arguments as they were. No condition. -/
import Derived.Test.YtadbmmdmibiikaaRose8
import Derived.Test.YtadbmmdmibiikaaAx8
import Derived.Test.YtadbmmdmibiikaaRows
namespace Go.Proofs.Ytadbmmdmibiikaa.lawRoseRound
set_option linter.unusedSimpArgs false
set_option linter.unusedVariables false
open Go Go.AX Go.ChangeShapes Go.WideShapes Go.ChangeAt Go.RowKit Go.Proofs.Ytadbmmdmibiikaa.Rose

theorem own : ownKnob Try.prog.godebug = none := by kernel_rfl
theorem laidOut : laidOutB Try.prog = true := by kernel_rfl

set_option maxRecDepth 100000 in
theorem contract (H : Type) (enc : TypeId × Value → H) (W : World) (base : Nat) (args : Array Value) (ds gs : List (DataW H)) (before : List MemPlace)
    (hval : ∀ (j : Nat) t v, Try.f4.params[j]? = some t → args[j]? = some v → Value.okWide Try.prog W .any base t v)
    (hW : DataW.Whole enc Try.prog Try.f4.params.toList Rows.roseRoundSpec.vars false W args.toList ds gs before) :
    Calls Try.prog 4 args W fun e W' => ∃ v, e = .returned v ∧ Rows.roseRoundSpec.post enc Try.prog Try.f4 false true false false W args v W' := by
  have hW' := hW
  obtain ⟨p, q, hA0, hV, rfl, hfz, hnd⟩ := hW
  have hA : DataW.TrodAll enc Try.prog W 0 (fun _ => true) true Try.f4.params.toList args.toList ds p := hA0
  rw [Try.params4] at hA hval
  obtain ⟨v0, d0, rfl, rfl, h0⟩ := trodAll_one hA
  obtain ⟨rfl, rfl⟩ := trodVars_none hV
  have k0 := okw1 hval
  obtain ⟨bs0, n0, cp0, R0, rfl, hl0, hs0, hR0⟩ := open_slc (P := Try.prog) (sz := 1) Try.underlying22 (by kernel_rfl) (by simp) (show leafTs Try.prog 20 3 = some [3] by kernel_rfl) rfl k0 h0
  obtain ⟨L0, rfl, hw0⟩ := rows_of (f := Rose.e1) (G := fun s => True) (fun i r hr => by
    obtain ⟨hl, hc⟩ := hR0 i r hr
    obtain ⟨c0, rfl⟩ := list1 hl
    obtain ⟨_, _, t0⟩ := hc 0 _ _ rfl rfl
    obtain ⟨a0, q0, _, w0⟩ := DataW.trod_int Try.underlying3 t0; cases q0
    exact ⟨a0, rfl, trivial⟩)
  rw [List.length_map] at hl0; subst hl0
  exact law_post laidOut (by kernel_rfl) rfl rfl Try.underlying4 hW' rfl rfl rfl
    ((RoseRound_c L0 bs0 cp0 _ hs0).mono fun v H' h => ⟨h.1, h.2 ▸ rfl⟩)

set_option maxRecDepth 100000 in
theorem lifted (os : Os) (started : os.Started) (H : Type) (enc : TypeId × Value → H) :
    ReturnsInHanded {} Try.checked os 4 .any (Rows.roseRoundSpec.pre6 enc Try.prog Try.f4 Rows.roseRoundRow.domain false) (Rows.roseRoundSpec.post enc Try.prog Try.f4 false true false false) := by
  refine returnsInHanded_of_change_sized (C := Try.checked) own started (by kernel_rfl) Try.func4
    (ChangeSpec.witness6 (enc := enc) (C := Try.checked) false ⟨#[], #[.slice none 0 0], []⟩ 8 (by kernel_rfl) (by kernel_rfl) (by kernel_rfl) (by kernel_rfl)) ?_
  intro W base args ds gs before hval hW _ _ _
  exact contract H enc W base args ds gs before hval hW

theorem proved : Rows.RoseRoundSaid :=
  OpenClaim.holds_of_wide 4 Try.f4 rfl rfl rfl rfl rfl rfl rfl ⟨rfl, rfl, rfl, rfl, rfl⟩ rfl rfl rfl rfl rfl (by kernel_rfl) Try.func4 (by kernel_rfl)
    (of_decide_eq_true (by kernel_rfl)) (by unfold Func.isWrapper; rw [if_neg (by decide +kernel)]; exact ⟨rfl, rfl⟩)
    (fun os started H enc _ => lifted os started H enc)

end Go.Proofs.Ytadbmmdmibiikaa.lawRoseRound
