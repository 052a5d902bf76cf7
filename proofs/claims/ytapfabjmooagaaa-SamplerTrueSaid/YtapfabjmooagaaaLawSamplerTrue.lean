/- For every input SamplerTrue answers true and leaves its arguments as they were. No condition. -/
import Derived.Test.YtapfabjmooagaaaSam4
import Derived.Test.YtapfabjmooagaaaAx8
import Derived.Test.YtapfabjmooagaaaRows
namespace Go.Proofs.Ytapfabjmooagaaa.lawSamplerTrue
set_option linter.unusedSimpArgs false
set_option linter.unusedVariables false
open Go Go.AX Go.ChangeShapes Go.WideShapes Go.ChangeAt Go.RowKit Go.Proofs.Ytapfabjmooagaaa.Sam

theorem own : ownKnob Try.prog.godebug = none := by kernel_rfl
theorem laidOut : laidOutB Try.prog = true := by kernel_rfl

set_option maxRecDepth 100000 in
theorem contract (H : Type) (enc : TypeId × Value → H) (W : World) (base : Nat) (args : Array Value) (ds gs : List (DataW H)) (before : List MemPlace)
    (hval : ∀ (j : Nat) t v, Try.f6.params[j]? = some t → args[j]? = some v → Value.okWide Try.prog W .any base t v)
    (hW : DataW.Whole enc Try.prog Try.f6.params.toList Rows.samplerTrueSpec.vars false W args.toList ds gs before) :
    Calls Try.prog 6 args W fun e W' => ∃ v, e = .returned v ∧ Rows.samplerTrueSpec.post enc Try.prog Try.f6 false true false false W args v W' := by
  have hW' := hW
  obtain ⟨p, q, hA0, hV, rfl, hfz, hnd⟩ := hW
  have hA : DataW.TrodAll enc Try.prog W 0 (fun _ => true) true Try.f6.params.toList args.toList ds p := hA0
  rw [Try.params6] at hA hval
  obtain ⟨v0, v1, v2, v3, d0, d1, d2, d3, p0, p1, p2, p3, rfl, rfl, rfl, h0, h1, h2, h3⟩ := trodAll_four hA
  obtain ⟨rfl, rfl⟩ := trodVars_none hV
  obtain ⟨k0, k1, k2, k3⟩ := okw4 hval
  obtain ⟨bs0, n0, cp0, R0, rfl, hl0, hs0, hR0⟩ := open_slc (P := Try.prog) (sz := 2) Try.underlying23 (by kernel_rfl) (by simp) (show leafTs Try.prog 20 38 = some [3, 3] by kernel_rfl) rfl k0 h0
  obtain ⟨L0, rfl, hw0⟩ := rows_of (f := Tck.enc) (G := fun s => True) (fun i r hr => by
    obtain ⟨hl, hc⟩ := hR0 i r hr
    obtain ⟨c0, c1, rfl⟩ := list2 hl
    obtain ⟨_, _, t0⟩ := hc 0 _ _ rfl rfl
    obtain ⟨a0, q0, _, w0⟩ := DataW.trod_int Try.underlying3 t0; cases q0
    obtain ⟨_, _, t1⟩ := hc 1 _ _ rfl rfl
    obtain ⟨a1, q1, _, w1⟩ := DataW.trod_int Try.underlying3 t1; cases q1
    exact ⟨⟨a0, a1⟩, rfl, trivial⟩)
  rw [List.length_map] at hl0; subst hl0
  obtain ⟨bs1, n1, cp1, R1, rfl, hl1, hs1, hR1⟩ := open_slc (P := Try.prog) (sz := 2) Try.underlying23 (by kernel_rfl) (by simp) (show leafTs Try.prog 20 38 = some [3, 3] by kernel_rfl) rfl k1 h1
  obtain ⟨L1, rfl, hw1⟩ := rows_of (f := Tck.enc) (G := fun s => True) (fun i r hr => by
    obtain ⟨hl, hc⟩ := hR1 i r hr
    obtain ⟨c0, c1, rfl⟩ := list2 hl
    obtain ⟨_, _, t0⟩ := hc 0 _ _ rfl rfl
    obtain ⟨a0, q0, _, w0⟩ := DataW.trod_int Try.underlying3 t0; cases q0
    obtain ⟨_, _, t1⟩ := hc 1 _ _ rfl rfl
    obtain ⟨a1, q1, _, w1⟩ := DataW.trod_int Try.underlying3 t1; cases q1
    exact ⟨⟨a0, a1⟩, rfl, trivial⟩)
  rw [List.length_map] at hl1; subst hl1
  obtain ⟨a2, rfl, rfl, rfl, w2⟩ := open_int Try.underlying24 k2 h2
  obtain ⟨ns3, hn3, rfl⟩ := open_arr_bool (P := Try.prog) Try.underlying41 Try.underlying4 (by kernel_rfl) (by kernel_rfl) k3 h3
  exact law_post laidOut (by kernel_rfl) rfl rfl Try.underlying4 hW' rfl rfl rfl
    ((SamplerTrue_c L0 bs0 cp0 L1 bs1 cp1 a2 w2 ns3 hn3 _ hs0 hs1).mono fun v H' h => ⟨h.1, h.2 ▸ rfl⟩)

set_option maxRecDepth 100000 in
theorem lifted (os : Os) (started : os.Started) (H : Type) (enc : TypeId × Value → H) :
    ReturnsInHanded {} Try.checked os 6 .any (Rows.samplerTrueSpec.pre6 enc Try.prog Try.f6 Rows.samplerTrueRow.domain false) (Rows.samplerTrueSpec.post enc Try.prog Try.f6 false true false false) := by
  refine returnsInHanded_of_change_sized (C := Try.checked) own started (by kernel_rfl) Try.func6
    (ChangeSpec.witness6 (enc := enc) (C := Try.checked) false ⟨#[], #[.slice none 0 0, .slice none 0 0, .int .u32 0, .agg #[.bool false, .bool false, .bool false, .bool false, .bool false, .bool false, .bool false, .bool false, .bool false, .bool false, .bool false]], []⟩ 8 (by kernel_rfl) (by kernel_rfl) (by kernel_rfl) (by kernel_rfl)) ?_
  intro W base args ds gs before hval hW _ _ _
  exact contract H enc W base args ds gs before hval hW

theorem proved : Rows.SamplerTrueSaid :=
  OpenClaim.holds_of_wide 6 Try.f6 rfl rfl rfl rfl rfl rfl rfl ⟨rfl, rfl, rfl, rfl, rfl⟩ rfl rfl rfl rfl rfl (by kernel_rfl) Try.func6 (by kernel_rfl)
    (of_decide_eq_true (by kernel_rfl)) (by unfold Func.isWrapper; rw [if_neg (by decide +kernel)]; exact ⟨rfl, rfl⟩)
    (fun os started H enc _ => lifted os started H enc)

end Go.Proofs.Ytapfabjmooagaaa.lawSamplerTrue
