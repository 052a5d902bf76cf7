/- For every input QueueDoes answers true and leaves its arguments as they were. No condition. -/
import Derived.Test.YthinfokelgcipaaQueue7
import Derived.Test.YthinfokelgcipaaAx8
import Derived.Test.YthinfokelgcipaaRows
namespace Go.Proofs.Ythinfokelgcipaa.lawQueueDoes
set_option linter.unusedSimpArgs false
set_option linter.unusedVariables false
open Go Go.AX Go.ChangeShapes Go.WideShapes Go.ChangeAt Go.RowKit Go.Proofs.Ythinfokelgcipaa.Queue

theorem own : ownKnob Try.prog.godebug = none := by kernel_rfl
theorem laidOut : laidOutB Try.prog = true := by kernel_rfl

set_option maxRecDepth 100000 in
theorem contract (H : Type) (enc : TypeId × Value → H) (W : World) (base : Nat) (args : Array Value) (ds gs : List (DataW H)) (before : List MemPlace)
    (hval : ∀ (j : Nat) t v, Try.f8.params[j]? = some t → args[j]? = some v → Value.okWide Try.prog W .any base t v)
    (hW : DataW.Whole enc Try.prog Try.f8.params.toList Rows.queueDoesSpec.vars false W args.toList ds gs before) :
    Calls Try.prog 8 args W fun e W' => ∃ v, e = .returned v ∧ Rows.queueDoesSpec.post enc Try.prog Try.f8 false true false false W args v W' := by
  have hW' := hW
  obtain ⟨p, q, hA0, hV, rfl, hfz, hnd⟩ := hW
  have hA : DataW.TrodAll enc Try.prog W 0 (fun _ => true) true Try.f8.params.toList args.toList ds p := hA0
  rw [Try.params8] at hA hval
  obtain ⟨v0, d0, rfl, rfl, h0⟩ := trodAll_one hA
  obtain ⟨rfl, rfl⟩ := trodVars_none hV
  have k0 := okw1 hval
  obtain ⟨bs0, n0, cp0, R0, rfl, hl0, hs0, hR0⟩ := open_slc (P := Try.prog) (sz := 11) Try.underlying58 (by kernel_rfl) (by simp) (show leafTs Try.prog 20 71 = some [5, 3, 3, 3, 3, 3, 5, 5, 5, 5, 3] by kernel_rfl) rfl k0 h0
  obtain ⟨L0, rfl, hw0⟩ := rows_of (f := Queue.encD) (G := fun s => (Lit.int .u8 s.kind).wf = true ∧ (Lit.int .u8 s.v0).wf = true ∧ (Lit.int .u8 s.v1).wf = true ∧ (Lit.int .u8 s.v2).wf = true ∧ (Lit.int .u8 s.v3).wf = true) (fun i r hr => by
    obtain ⟨hl, hc⟩ := hR0 i r hr
    obtain ⟨c0, c1, c2, c3, c4, c5, c6, c7, c8, c9, c10, rfl⟩ := list11 hl
    obtain ⟨_, _, t0⟩ := hc 0 _ _ rfl rfl
    obtain ⟨a0, q0, _, w0⟩ := DataW.trod_int Try.underlying5 t0; cases q0
    obtain ⟨_, _, t1⟩ := hc 1 _ _ rfl rfl
    obtain ⟨a1, q1, _, w1⟩ := DataW.trod_int Try.underlying3 t1; cases q1
    obtain ⟨_, _, t2⟩ := hc 2 _ _ rfl rfl
    obtain ⟨a2, q2, _, w2⟩ := DataW.trod_int Try.underlying3 t2; cases q2
    obtain ⟨_, _, t3⟩ := hc 3 _ _ rfl rfl
    obtain ⟨a3, q3, _, w3⟩ := DataW.trod_int Try.underlying3 t3; cases q3
    obtain ⟨_, _, t4⟩ := hc 4 _ _ rfl rfl
    obtain ⟨a4, q4, _, w4⟩ := DataW.trod_int Try.underlying3 t4; cases q4
    obtain ⟨_, _, t5⟩ := hc 5 _ _ rfl rfl
    obtain ⟨a5, q5, _, w5⟩ := DataW.trod_int Try.underlying3 t5; cases q5
    obtain ⟨_, _, t6⟩ := hc 6 _ _ rfl rfl
    obtain ⟨a6, q6, _, w6⟩ := DataW.trod_int Try.underlying5 t6; cases q6
    obtain ⟨_, _, t7⟩ := hc 7 _ _ rfl rfl
    obtain ⟨a7, q7, _, w7⟩ := DataW.trod_int Try.underlying5 t7; cases q7
    obtain ⟨_, _, t8⟩ := hc 8 _ _ rfl rfl
    obtain ⟨a8, q8, _, w8⟩ := DataW.trod_int Try.underlying5 t8; cases q8
    obtain ⟨_, _, t9⟩ := hc 9 _ _ rfl rfl
    obtain ⟨a9, q9, _, w9⟩ := DataW.trod_int Try.underlying5 t9; cases q9
    obtain ⟨_, _, t10⟩ := hc 10 _ _ rfl rfl
    obtain ⟨a10, q10, _, w10⟩ := DataW.trod_int Try.underlying3 t10; cases q10
    exact ⟨⟨a0, a1, a2, a3, a4, a5, a6, a7, a8, a9, a10⟩, rfl, w0, w6, w7, w8, w9⟩)
  rw [List.length_map] at hl0; subst hl0
  exact law_post laidOut (by kernel_rfl) rfl rfl Try.underlying4 hW' rfl rfl rfl
    ((QueueDoes_c L0 bs0 cp0 _ hs0 hw0).mono fun v H' h => ⟨h.1, h.2 ▸ rfl⟩)

set_option maxRecDepth 100000 in
theorem lifted (os : Os) (started : os.Started) (H : Type) (enc : TypeId × Value → H) :
    ReturnsInHanded {} Try.checked os 8 .any (Rows.queueDoesSpec.pre6 enc Try.prog Try.f8 Rows.queueDoesRow.domain false) (Rows.queueDoesSpec.post enc Try.prog Try.f8 false true false false) := by
  refine returnsInHanded_of_change_sized (C := Try.checked) own started (by kernel_rfl) Try.func8
    (ChangeSpec.witness6 (enc := enc) (C := Try.checked) false ⟨#[], #[.slice none 0 0], []⟩ 8 (by kernel_rfl) (by kernel_rfl) (by kernel_rfl) (by kernel_rfl)) ?_
  intro W base args ds gs before hval hW _ _ _
  exact contract H enc W base args ds gs before hval hW

theorem proved : Rows.QueueDoesSaid :=
  OpenClaim.holds_of_wide 8 Try.f8 rfl rfl rfl rfl rfl rfl rfl ⟨rfl, rfl, rfl, rfl, rfl⟩ rfl rfl rfl rfl rfl (by kernel_rfl) Try.func8 (by kernel_rfl)
    (of_decide_eq_true (by kernel_rfl)) (by unfold Func.isWrapper; rw [if_neg (by decide +kernel)]; exact ⟨rfl, rfl⟩)
    (fun os started H enc _ => lifted os started H enc)

end Go.Proofs.Ythinfokelgcipaa.lawQueueDoes
