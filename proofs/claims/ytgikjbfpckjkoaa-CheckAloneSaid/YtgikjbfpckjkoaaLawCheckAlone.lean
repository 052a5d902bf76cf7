/- For every input CheckAlone answers true and leaves its arguments as they were. No condition. -/
import Derived.Test.YtgikjbfpckjkoaaChk9
import Derived.Test.YtgikjbfpckjkoaaAx8
import Derived.Test.YtgikjbfpckjkoaaRows
namespace Go.Proofs.Ytgikjbfpckjkoaa.lawCheckAlone
set_option linter.unusedSimpArgs false
set_option linter.unusedVariables false
open Go Go.AX Go.ChangeShapes Go.WideShapes Go.ChangeAt Go.RowKit Go.Proofs.Ytgikjbfpckjkoaa.Chk

theorem own : ownKnob Try.prog.godebug = none := by kernel_rfl
theorem laidOut : laidOutB Try.prog = true := by kernel_rfl

set_option maxRecDepth 100000 in
theorem contract (H : Type) (enc : TypeId × Value → H) (W : World) (base : Nat) (args : Array Value) (ds gs : List (DataW H)) (before : List MemPlace)
    (hval : ∀ (j : Nat) t v, Try.f9.params[j]? = some t → args[j]? = some v → Value.okWide Try.prog W .any base t v)
    (hW : DataW.Whole enc Try.prog Try.f9.params.toList Rows.checkAloneSpec.vars false W args.toList ds gs before) :
    Calls Try.prog 9 args W fun e W' => ∃ v, e = .returned v ∧ Rows.checkAloneSpec.post enc Try.prog Try.f9 false true false false W args v W' := by
  have hW' := hW
  obtain ⟨p, q, hA0, hV, rfl, hfz, hnd⟩ := hW
  have hA : DataW.TrodAll enc Try.prog W 0 (fun _ => true) true Try.f9.params.toList args.toList ds p := hA0
  rw [Try.params9] at hA hval
  obtain ⟨v0, d0, rfl, rfl, h0⟩ := trodAll_one hA
  obtain ⟨rfl, rfl⟩ := trodVars_none hV
  have k0 := okw1 hval
  obtain ⟨bs0, n0, cp0, R0, rfl, hl0, hs0, hR0⟩ := open_slc (P := Try.prog) (sz := 1) Try.underlying68 (by kernel_rfl) (by simp) (show leafTs Try.prog 20 79 = some [79] by kernel_rfl) rfl k0 h0
  obtain ⟨T0, rfl, hw0⟩ := rows_of (f := Chk.encT) (G := fun s => SlcIn ⟨W, []⟩ 5 s.1 s.2.1 (s.2.2.map Chk.encE)) (fun i r hr => by
    obtain ⟨hl, hc⟩ := hR0 i r hr
    obtain ⟨c0, rfl⟩ := list1 hl
    obtain ⟨_, _, t0⟩ := hc 0 _ _ rfl rfl
    obtain ⟨b2, n2, cp2, R2, rfl, hl2, hs2, hR2⟩ := open_slcT (P := Try.prog) (sz := 5) Try.underlying79 (by kernel_rfl) (by simp) (show leafTs Try.prog 20 75 = some [3, 3, 3, 3, 3] by kernel_rfl) rfl ⟨_, t0⟩
    obtain ⟨L2, rfl, hw2⟩ := rows_of (f := Chk.encE) (G := fun s => True) (fun i r hr => by
      obtain ⟨hl, hc⟩ := hR2 i r hr
      obtain ⟨c0, c1, c2, c3, c4, rfl⟩ := list5 hl
      obtain ⟨_, _, t0⟩ := hc 0 _ _ rfl rfl
      obtain ⟨a0, q0, _, w0⟩ := DataW.trod_int Try.underlying3 t0; cases q0
      obtain ⟨_, _, t1⟩ := hc 1 _ _ rfl rfl
      obtain ⟨a1, q1, _, w1⟩ := DataW.trod_int Try.underlying3 t1; cases q1
      obtain ⟨_, _, t2⟩ := hc 2 _ _ rfl rfl
      obtain ⟨a2, q2, _, w2⟩ := DataW.trod_int Try.underlying3 t2; cases q2
      obtain ⟨_, _, t3⟩ := hc 3 _ _ rfl rfl
      obtain ⟨a3, q3, _, w3⟩ := DataW.trod_int Try.underlying3 t3; cases q3
      obtain ⟨_, _, t4⟩ := hc 4 _ _ rfl rfl
      obtain ⟨a4, q4, _, w4⟩ := DataW.trod_int Try.underlying3 t4; cases q4
      exact ⟨⟨a0, a1, a2, a3, a4⟩, rfl, trivial⟩)
    rw [List.length_map] at hl2; subst hl2
    exact ⟨(b2, cp2, L2), rfl, hs2⟩)
  rw [List.length_map] at hl0; subst hl0
  exact law_post laidOut (by kernel_rfl) rfl rfl Try.underlying4 hW' rfl rfl rfl
    ((CheckAlone_c T0 bs0 cp0 _ ⟨hs0, hw0⟩).mono fun v H' h => ⟨h.1, h.2 ▸ rfl⟩)

set_option maxRecDepth 100000 in
theorem lifted (os : Os) (started : os.Started) (H : Type) (enc : TypeId × Value → H) :
    ReturnsInHanded {} Try.checked os 9 .any (Rows.checkAloneSpec.pre6 enc Try.prog Try.f9 Rows.checkAloneRow.domain false) (Rows.checkAloneSpec.post enc Try.prog Try.f9 false true false false) := by
  refine returnsInHanded_of_change_sized (C := Try.checked) own started (by kernel_rfl) Try.func9
    (ChangeSpec.witness6 (enc := enc) (C := Try.checked) false ⟨#[], #[.slice none 0 0], []⟩ 8 (by kernel_rfl) (by kernel_rfl) (by kernel_rfl) (by kernel_rfl)) ?_
  intro W base args ds gs before hval hW _ _ _
  exact contract H enc W base args ds gs before hval hW

theorem proved : Rows.CheckAloneSaid :=
  OpenClaim.holds_of_wide 9 Try.f9 rfl rfl rfl rfl rfl rfl rfl ⟨rfl, rfl, rfl, rfl, rfl⟩ rfl rfl rfl rfl rfl (by kernel_rfl) Try.func9 (by kernel_rfl)
    (of_decide_eq_true (by kernel_rfl)) (by unfold Func.isWrapper; rw [if_neg (by decide +kernel)]; exact ⟨rfl, rfl⟩)
    (fun os started H enc _ => lifted os started H enc)

end Go.Proofs.Ytgikjbfpckjkoaa.lawCheckAlone
