/- For every input FileKeeps answers true and leaves its arguments as they were. No condition. -/
import Derived.Test.YtadbmmdmibiikaaFile9
import Derived.Test.YtadbmmdmibiikaaAx8
import Derived.Test.YtadbmmdmibiikaaRows
namespace Go.Proofs.Ytadbmmdmibiikaa.lawFileKeeps
set_option linter.unusedSimpArgs false
set_option linter.unusedVariables false
open Go Go.AX Go.ChangeShapes Go.WideShapes Go.ChangeAt Go.RowKit Go.Proofs.Ytadbmmdmibiikaa.File

theorem own : ownKnob Try.prog.godebug = none := by kernel_rfl
theorem laidOut : laidOutB Try.prog = true := by kernel_rfl

set_option maxRecDepth 100000 in
theorem contract (H : Type) (enc : TypeId × Value → H) (W : World) (base : Nat) (args : Array Value) (ds gs : List (DataW H)) (before : List MemPlace)
    (hval : ∀ (j : Nat) t v, Try.f14.params[j]? = some t → args[j]? = some v → Value.okWide Try.prog W .any base t v)
    (hW : DataW.Whole enc Try.prog Try.f14.params.toList Rows.fileKeepsSpec.vars false W args.toList ds gs before) :
    Calls Try.prog 14 args W fun e W' => ∃ v, e = .returned v ∧ Rows.fileKeepsSpec.post enc Try.prog Try.f14 false true false false W args v W' := by
  have hW' := hW
  obtain ⟨p, q, hA0, hV, rfl, hfz, hnd⟩ := hW
  have hA : DataW.TrodAll enc Try.prog W 0 (fun _ => true) true Try.f14.params.toList args.toList ds p := hA0
  rw [Try.params14] at hA hval
  obtain ⟨v0, v1, v2, v3, d0, d1, d2, d3, p0, p1, p2, p3, rfl, rfl, rfl, h0, h1, h2, h3⟩ := trodAll_four hA
  obtain ⟨rfl, rfl⟩ := trodVars_none hV
  obtain ⟨k0, k1, k2, k3⟩ := okw4 hval
  obtain ⟨c0_0, c0_1, y0_0, y0_1, m0, rfl, rfl, rfl, e0_0, e0_1⟩ := Go.Joins.open_agg2 (Try.underlying25) (by kernel_rfl) (by kernel_rfl) k0 h0
  obtain ⟨a0, q0, _, _⟩ := DataW.trod_int Try.underlying3 e0_0
  cases q0
  have kc0 := okw_cell (i := 1) (u := 23) (ts := [3, 23]) Try.underlying25 k0 (by kernel_rfl) rfl rfl
  obtain ⟨bs0, n0, cp0, R0, rfl, hl0, hs0, hR0⟩ := open_slcC (P := Try.prog) (sz := 4) Try.underlying23 (by kernel_rfl) (by simp) (show leafTs Try.prog 20 64 = some [5, 5, 5, 5] by kernel_rfl) rfl kc0 ⟨_, e0_1⟩
  obtain ⟨L0, rfl, hw0⟩ := rows_of (f := File.enc) (G := fun s => (Lit.int .u8 s.1).wf = true ∧ (Lit.int .u8 s.2.1).wf = true ∧ (Lit.int .u8 s.2.2.1).wf = true ∧ (Lit.int .u8 s.2.2.2).wf = true) (fun i r hr => by
    obtain ⟨hl, hc⟩ := hR0 i r hr
    obtain ⟨c0, c1, c2, c3, rfl⟩ := list4 hl
    obtain ⟨_, _, t0⟩ := hc 0 _ _ rfl rfl
    obtain ⟨a0, q0, _, w0⟩ := DataW.trod_int Try.underlying5 t0; cases q0
    obtain ⟨_, _, t1⟩ := hc 1 _ _ rfl rfl
    obtain ⟨a1, q1, _, w1⟩ := DataW.trod_int Try.underlying5 t1; cases q1
    obtain ⟨_, _, t2⟩ := hc 2 _ _ rfl rfl
    obtain ⟨a2, q2, _, w2⟩ := DataW.trod_int Try.underlying5 t2; cases q2
    obtain ⟨_, _, t3⟩ := hc 3 _ _ rfl rfl
    obtain ⟨a3, q3, _, w3⟩ := DataW.trod_int Try.underlying5 t3; cases q3
    exact ⟨⟨a0, a1, a2, a3⟩, rfl, w0, w1, w2, w3⟩)
  rw [List.length_map] at hl0; subst hl0
  obtain ⟨a1, rfl, rfl, rfl, w1⟩ := open_int Try.underlying3 k1 h1
  obtain ⟨a2, rfl, rfl, rfl, w2⟩ := open_int Try.underlying3 k2 h2
  obtain ⟨ns3, hn3, rfl, hw3⟩ := open_arr_int (P := Try.prog) Try.underlying64 Try.underlying5 (by kernel_rfl) (by kernel_rfl) k3 h3
  obtain ⟨x3_0, x3_1, x3_2, x3_3, rfl⟩ := list4 hn3
  exact law_post laidOut (by kernel_rfl) rfl rfl Try.underlying4 hW' rfl rfl rfl
    ((FileKeeps_c a0 L0 bs0 cp0 a1 a2 x3_0 x3_1 x3_2 x3_3 (byte_wf (hw3 x3_0 (by simp))) (byte_wf (hw3 x3_1 (by simp))) (byte_wf (hw3 x3_2 (by simp))) (byte_wf (hw3 x3_3 (by simp))) _ hs0).mono fun v H' h => ⟨h.1, h.2 ▸ rfl⟩)

set_option maxRecDepth 100000 in
theorem lifted (os : Os) (started : os.Started) (H : Type) (enc : TypeId × Value → H) :
    ReturnsInHanded {} Try.checked os 14 .any (Rows.fileKeepsSpec.pre6 enc Try.prog Try.f14 Rows.fileKeepsRow.domain false) (Rows.fileKeepsSpec.post enc Try.prog Try.f14 false true false false) := by
  refine returnsInHanded_of_change_sized (C := Try.checked) own started (by kernel_rfl) Try.func14
    (ChangeSpec.witness6 (enc := enc) (C := Try.checked) false ⟨#[], #[.agg #[.int .i64 0, .slice none 0 0], .int .i64 0, .int .i64 0, .agg #[.int .u8 0, .int .u8 0, .int .u8 0, .int .u8 0]], []⟩ 8 (by kernel_rfl) (by kernel_rfl) (by kernel_rfl) (by kernel_rfl)) ?_
  intro W base args ds gs before hval hW _ _ _
  exact contract H enc W base args ds gs before hval hW

theorem proved : Rows.FileKeepsSaid :=
  OpenClaim.holds_of_wide 14 Try.f14 rfl rfl rfl rfl rfl rfl rfl ⟨rfl, rfl, rfl, rfl, rfl⟩ rfl rfl rfl rfl rfl (by kernel_rfl) Try.func14 (by kernel_rfl)
    (of_decide_eq_true (by kernel_rfl)) (by unfold Func.isWrapper; rw [if_neg (by decide +kernel)]; exact ⟨rfl, rfl⟩)
    (fun os started H enc _ => lifted os started H enc)

end Go.Proofs.Ytadbmmdmibiikaa.lawFileKeeps
