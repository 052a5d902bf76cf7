/- For every input RodlRound answers true and leaves its arguments as they were. No condition. -/
import Derived.Test.YtadbmmdmibiikaaRodl12
import Derived.Test.YtadbmmdmibiikaaAx8
import Derived.Test.YtadbmmdmibiikaaRows
namespace Go.Proofs.Ytadbmmdmibiikaa.lawRodlRound
set_option linter.unusedSimpArgs false
set_option linter.unusedVariables false
open Go Go.AX Go.ChangeShapes Go.WideShapes Go.ChangeAt Go.RowKit Go.Proofs.Ytadbmmdmibiikaa.Rodl

theorem own : ownKnob Try.prog.godebug = none := by kernel_rfl
theorem laidOut : laidOutB Try.prog = true := by kernel_rfl

set_option maxRecDepth 100000 in
theorem contract (H : Type) (enc : TypeId × Value → H) (W : World) (base : Nat) (args : Array Value) (ds gs : List (DataW H)) (before : List MemPlace)
    (hval : ∀ (j : Nat) t v, Try.f12.params[j]? = some t → args[j]? = some v → Value.okWide Try.prog W .any base t v)
    (hW : DataW.Whole enc Try.prog Try.f12.params.toList Rows.rodlRoundSpec.vars false W args.toList ds gs before) :
    Calls Try.prog 12 args W fun e W' => ∃ v, e = .returned v ∧ Rows.rodlRoundSpec.post enc Try.prog Try.f12 false true false false W args v W' := by
  have hW' := hW
  obtain ⟨p, q, hA0, hV, rfl, hfz, hnd⟩ := hW
  have hA : DataW.TrodAll enc Try.prog W 0 (fun _ => true) true Try.f12.params.toList args.toList ds p := hA0
  rw [Try.params12] at hA hval
  obtain ⟨v0, v1, v2, v3, d0, d1, d2, d3, p0, p1, p2, p3, rfl, rfl, rfl, h0, h1, h2, h3⟩ := trodAll_four hA
  obtain ⟨rfl, rfl⟩ := trodVars_none hV
  obtain ⟨k0, k1, k2, k3⟩ := okw4 hval
  obtain ⟨cs0, rfl, hl0, hc0⟩ := open_flat (sz := 5) Try.underlying90 (by kernel_rfl) (show leafTs Try.prog 20 90 = some [3, 3, 3, 3, 3] by kernel_rfl) rfl k0 h0
  obtain ⟨c0_0, c0_1, c0_2, c0_3, c0_4, rfl⟩ := list5 hl0
  obtain ⟨_, _, t0_0⟩ := hc0 0 _ _ rfl rfl
  obtain ⟨a0_0, q0_0, _, w0_0⟩ := DataW.trod_int Try.underlying3 t0_0; cases q0_0
  obtain ⟨_, _, t0_1⟩ := hc0 1 _ _ rfl rfl
  obtain ⟨a0_1, q0_1, _, w0_1⟩ := DataW.trod_int Try.underlying3 t0_1; cases q0_1
  obtain ⟨_, _, t0_2⟩ := hc0 2 _ _ rfl rfl
  obtain ⟨a0_2, q0_2, _, w0_2⟩ := DataW.trod_int Try.underlying3 t0_2; cases q0_2
  obtain ⟨_, _, t0_3⟩ := hc0 3 _ _ rfl rfl
  obtain ⟨a0_3, q0_3, _, w0_3⟩ := DataW.trod_int Try.underlying3 t0_3; cases q0_3
  obtain ⟨_, _, t0_4⟩ := hc0 4 _ _ rfl rfl
  obtain ⟨a0_4, q0_4, _, w0_4⟩ := DataW.trod_int Try.underlying3 t0_4; cases q0_4
  obtain ⟨ns1, hn1, rfl, hw1⟩ := open_arr_int (P := Try.prog) Try.underlying64 Try.underlying5 (by kernel_rfl) (by kernel_rfl) k1 h1
  obtain ⟨x1_0, x1_1, x1_2, x1_3, rfl⟩ := list4 hn1
  obtain ⟨bs2, n2, cp2, R2, rfl, hl2, hs2, hR2⟩ := open_slc (P := Try.prog) (sz := 5) Try.underlying101 (by kernel_rfl) (by simp) (show leafTs Try.prog 20 90 = some [3, 3, 3, 3, 3] by kernel_rfl) rfl k2 h2
  obtain ⟨L2, rfl, hw2⟩ := rows_of (f := Rodl.encE) (G := fun s => True) (fun i r hr => by
    obtain ⟨hl, hc⟩ := hR2 i r hr
    obtain ⟨c0, c1, c2, c3, c4, rfl⟩ := list5 hl
    obtain ⟨_, _, t0⟩ := hc 0 _ _ rfl rfl
    obtain ⟨a0, q0, _, w0⟩ := DataW.trod_int Try.underlying3 t0; cases q0
    obtain ⟨_, _, t1⟩ := hc 1 _ _ rfl rfl
    obtain ⟨a1, q1, _, w1⟩ := DataW.trod_int Try.underlying3 t1; cases q1
    obtain ⟨_, _, t2⟩ := hc 2 _ _ rfl rfl
    obtain ⟨a2, q2, _, w2⟩ := DataW.trod_int Try.underlying3 t2; cases q2
    obtain ⟨_, _, t3⟩ := hc 3 _ _ rfl rfl
    obtain ⟨a3, q3, _, w3⟩ := DataW.trod_int Try.underlying3 t3; cases q3
    obtain ⟨_, _, t4⟩ := hc 4 _ _ rfl rfl
    obtain ⟨a4, q4, _, w4⟩ := DataW.trod_int Try.underlying3 t4; cases q4
    exact ⟨⟨a0, a1, a2, a3, a4⟩, rfl, trivial⟩)
  rw [List.length_map] at hl2; subst hl2
  obtain ⟨c3_0, c3_1, y3_0, y3_1, m3, rfl, rfl, rfl, e3_0, e3_1⟩ := Go.Joins.open_agg2 (Try.underlying25) (by kernel_rfl) (by kernel_rfl) k3 h3
  obtain ⟨a3, q3, _, _⟩ := DataW.trod_int Try.underlying3 e3_0
  cases q3
  have kc3 := okw_cell (i := 1) (u := 23) (ts := [3, 23]) Try.underlying25 k3 (by kernel_rfl) rfl rfl
  obtain ⟨bs3, n3, cp3, R3, rfl, hl3, hs3, hR3⟩ := open_slcC (P := Try.prog) (sz := 4) Try.underlying23 (by kernel_rfl) (by simp) (show leafTs Try.prog 20 64 = some [5, 5, 5, 5] by kernel_rfl) rfl kc3 ⟨_, e3_1⟩
  obtain ⟨L3, rfl, hw3⟩ := rows_of (f := File.enc) (G := fun s => (Lit.int .u8 s.1).wf = true ∧ (Lit.int .u8 s.2.1).wf = true ∧ (Lit.int .u8 s.2.2.1).wf = true ∧ (Lit.int .u8 s.2.2.2).wf = true) (fun i r hr => by
    obtain ⟨hl, hc⟩ := hR3 i r hr
    obtain ⟨c0, c1, c2, c3, rfl⟩ := list4 hl
    obtain ⟨_, _, t0⟩ := hc 0 _ _ rfl rfl
    obtain ⟨a0, q0, _, w0⟩ := DataW.trod_int Try.underlying5 t0; cases q0
    obtain ⟨_, _, t1⟩ := hc 1 _ _ rfl rfl
    obtain ⟨a1, q1, _, w1⟩ := DataW.trod_int Try.underlying5 t1; cases q1
    obtain ⟨_, _, t2⟩ := hc 2 _ _ rfl rfl
    obtain ⟨a2, q2, _, w2⟩ := DataW.trod_int Try.underlying5 t2; cases q2
    obtain ⟨_, _, t3⟩ := hc 3 _ _ rfl rfl
    obtain ⟨a3, q3, _, w3⟩ := DataW.trod_int Try.underlying5 t3; cases q3
    exact ⟨⟨a0, a1, a2, a3⟩, rfl, w0, w1, w2, w3⟩)
  rw [List.length_map] at hl3; subst hl3
  exact law_post laidOut (by kernel_rfl) rfl rfl Try.underlying4 hW' rfl rfl rfl
    ((RodlRound_c a0_0 a0_1 a0_2 a0_3 a0_4 x1_0 x1_1 x1_2 x1_3 (byte_wf (hw1 x1_0 (by simp))) (byte_wf (hw1 x1_1 (by simp))) (byte_wf (hw1 x1_2 (by simp))) (byte_wf (hw1 x1_3 (by simp))) L2 bs2 cp2 a3 L3 bs3 cp3 _ hs2 hs3 hw3).mono fun v H' h => ⟨h.1, h.2 ▸ rfl⟩)

set_option maxRecDepth 100000 in
theorem lifted (os : Os) (started : os.Started) (H : Type) (enc : TypeId × Value → H) :
    ReturnsInHanded {} Try.checked os 12 .any (Rows.rodlRoundSpec.pre6 enc Try.prog Try.f12 Rows.rodlRoundRow.domain false) (Rows.rodlRoundSpec.post enc Try.prog Try.f12 false true false false) := by
  refine returnsInHanded_of_change_sized (C := Try.checked) own started (by kernel_rfl) Try.func12
    (ChangeSpec.witness6 (enc := enc) (C := Try.checked) false ⟨#[], #[.agg #[.int .i64 0, .int .i64 0, .int .i64 0, .int .i64 0, .int .i64 0], .agg #[.int .u8 0, .int .u8 0, .int .u8 0, .int .u8 0], .slice none 0 0, .agg #[.int .i64 0, .slice none 0 0]], []⟩ 8 (by kernel_rfl) (by kernel_rfl) (by kernel_rfl) (by kernel_rfl)) ?_
  intro W base args ds gs before hval hW _ _ _
  exact contract H enc W base args ds gs before hval hW

theorem proved : Rows.RodlRoundSaid :=
  OpenClaim.holds_of_wide 12 Try.f12 rfl rfl rfl rfl rfl rfl rfl ⟨rfl, rfl, rfl, rfl, rfl⟩ rfl rfl rfl rfl rfl (by kernel_rfl) Try.func12 (by kernel_rfl)
    (of_decide_eq_true (by kernel_rfl)) (by unfold Func.isWrapper; rw [if_neg (by decide +kernel)]; exact ⟨rfl, rfl⟩)
    (fun os started H enc _ => lifted os started H enc)

end Go.Proofs.Ytadbmmdmibiikaa.lawRodlRound
