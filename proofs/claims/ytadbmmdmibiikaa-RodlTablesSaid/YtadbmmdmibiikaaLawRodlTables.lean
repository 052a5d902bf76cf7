/- For every input RodlTables answers true and leaves its arguments as they were. No condition. -/
import Derived.Test.YtadbmmdmibiikaaRodl11
import Derived.Test.YtadbmmdmibiikaaAx8
import Derived.Test.YtadbmmdmibiikaaRows
namespace Go.Proofs.Ytadbmmdmibiikaa.lawRodlTables
set_option linter.unusedSimpArgs false
set_option linter.unusedVariables false
open Go Go.AX Go.ChangeShapes Go.WideShapes Go.ChangeAt Go.RowKit Go.Proofs.Ytadbmmdmibiikaa.Rodl

theorem own : ownKnob Try.prog.godebug = none := by kernel_rfl
theorem laidOut : laidOutB Try.prog = true := by kernel_rfl

set_option maxRecDepth 100000 in
theorem contract (H : Type) (enc : TypeId × Value → H) (W : World) (base : Nat) (args : Array Value) (ds gs : List (DataW H)) (before : List MemPlace)
    (hval : ∀ (j : Nat) t v, Try.f11.params[j]? = some t → args[j]? = some v → Value.okWide Try.prog W .any base t v)
    (hW : DataW.Whole enc Try.prog Try.f11.params.toList Rows.rodlTablesSpec.vars false W args.toList ds gs before) :
    Calls Try.prog 11 args W fun e W' => ∃ v, e = .returned v ∧ Rows.rodlTablesSpec.post enc Try.prog Try.f11 false true false false W args v W' := by
  have hW' := hW
  obtain ⟨p, q, hA0, hV, rfl, hfz, hnd⟩ := hW
  have hA : DataW.TrodAll enc Try.prog W 0 (fun _ => true) true Try.f11.params.toList args.toList ds p := hA0
  rw [Try.params11] at hA hval
  obtain ⟨v0, v1, d0, d1, p0, p1, rfl, rfl, rfl, h0, h1⟩ := trodAll_two hA
  obtain ⟨rfl, rfl⟩ := trodVars_none hV
  obtain ⟨k0, k1⟩ := okw2 hval
  obtain ⟨c0_0, c0_1, y0_0, y0_1, m0, rfl, rfl, rfl, e0_0, e0_1⟩ := Go.Joins.open_agg2 (Try.underlying25) (by kernel_rfl) (by kernel_rfl) k0 h0
  obtain ⟨a0, q0, _, _⟩ := DataW.trod_int Try.underlying3 e0_0
  cases q0
  have kc0 := okw_cell (i := 1) (u := 23) (ts := [3, 23]) Try.underlying25 k0 (by kernel_rfl) rfl rfl
  obtain ⟨bs0, n0, cp0, R0, rfl, hl0, hs0, hR0⟩ := open_slcC (P := Try.prog) (sz := 4) Try.underlying23 (by kernel_rfl) (by simp) (show leafTs Try.prog 20 64 = some [5, 5, 5, 5] by kernel_rfl) rfl kc0 ⟨_, e0_1⟩
  obtain ⟨L0, rfl, hw0⟩ := rows_of (f := File.enc) (G := fun s => (Lit.int .u8 s.1).wf = true ∧ (Lit.int .u8 s.2.1).wf = true ∧ (Lit.int .u8 s.2.2.1).wf = true ∧ (Lit.int .u8 s.2.2.2).wf = true) (fun i r hr => by
    obtain ⟨hl, hc⟩ := hR0 i r hr
    obtain ⟨c0, c1, c2, c3, rfl⟩ := list4 hl
    obtain ⟨_, _, t0⟩ := hc 0 _ _ rfl rfl
    obtain ⟨a0, q0, _, w0⟩ := DataW.trod_int Try.underlying5 t0; cases q0
    obtain ⟨_, _, t1⟩ := hc 1 _ _ rfl rfl
    obtain ⟨a1, q1, _, w1⟩ := DataW.trod_int Try.underlying5 t1; cases q1
    obtain ⟨_, _, t2⟩ := hc 2 _ _ rfl rfl
    obtain ⟨a2, q2, _, w2⟩ := DataW.trod_int Try.underlying5 t2; cases q2
    obtain ⟨_, _, t3⟩ := hc 3 _ _ rfl rfl
    obtain ⟨a3, q3, _, w3⟩ := DataW.trod_int Try.underlying5 t3; cases q3
    exact ⟨⟨a0, a1, a2, a3⟩, rfl, w0, w1, w2, w3⟩)
  rw [List.length_map] at hl0; subst hl0
  obtain ⟨bs1, n1, cp1, R1, rfl, hl1, hs1, hR1⟩ := open_slc (P := Try.prog) (sz := 5) Try.underlying101 (by kernel_rfl) (by simp) (show leafTs Try.prog 20 90 = some [3, 3, 3, 3, 3] by kernel_rfl) rfl k1 h1
  obtain ⟨L1, rfl, hw1⟩ := rows_of (f := Rodl.encE) (G := fun s => True) (fun i r hr => by
    obtain ⟨hl, hc⟩ := hR1 i r hr
    obtain ⟨c0, c1, c2, c3, c4, rfl⟩ := list5 hl
    obtain ⟨_, _, t0⟩ := hc 0 _ _ rfl rfl
    obtain ⟨a0, q0, _, w0⟩ := DataW.trod_int Try.underlying3 t0; cases q0
    obtain ⟨_, _, t1⟩ := hc 1 _ _ rfl rfl
    obtain ⟨a1, q1, _, w1⟩ := DataW.trod_int Try.underlying3 t1; cases q1
    obtain ⟨_, _, t2⟩ := hc 2 _ _ rfl rfl
    obtain ⟨a2, q2, _, w2⟩ := DataW.trod_int Try.underlying3 t2; cases q2
    obtain ⟨_, _, t3⟩ := hc 3 _ _ rfl rfl
    obtain ⟨a3, q3, _, w3⟩ := DataW.trod_int Try.underlying3 t3; cases q3
    obtain ⟨_, _, t4⟩ := hc 4 _ _ rfl rfl
    obtain ⟨a4, q4, _, w4⟩ := DataW.trod_int Try.underlying3 t4; cases q4
    exact ⟨⟨a0, a1, a2, a3, a4⟩, rfl, trivial⟩)
  rw [List.length_map] at hl1; subst hl1
  exact law_post laidOut (by kernel_rfl) rfl rfl Try.underlying4 hW' rfl rfl rfl
    ((RodlTables_c a0 L0 bs0 cp0 L1 bs1 cp1 _ hs0 hw0 hs1).mono fun v H' h => ⟨h.1, h.2 ▸ rfl⟩)

set_option maxRecDepth 100000 in
theorem lifted (os : Os) (started : os.Started) (H : Type) (enc : TypeId × Value → H) :
    ReturnsInHanded {} Try.checked os 11 .any (Rows.rodlTablesSpec.pre6 enc Try.prog Try.f11 Rows.rodlTablesRow.domain false) (Rows.rodlTablesSpec.post enc Try.prog Try.f11 false true false false) := by
  refine returnsInHanded_of_change_sized (C := Try.checked) own started (by kernel_rfl) Try.func11
    (ChangeSpec.witness6 (enc := enc) (C := Try.checked) false ⟨#[], #[.agg #[.int .i64 0, .slice none 0 0], .slice none 0 0], []⟩ 8 (by kernel_rfl) (by kernel_rfl) (by kernel_rfl) (by kernel_rfl)) ?_
  intro W base args ds gs before hval hW _ _ _
  exact contract H enc W base args ds gs before hval hW

theorem proved : Rows.RodlTablesSaid :=
  OpenClaim.holds_of_wide 11 Try.f11 rfl rfl rfl rfl rfl rfl rfl ⟨rfl, rfl, rfl, rfl, rfl⟩ rfl rfl rfl rfl rfl (by kernel_rfl) Try.func11 (by kernel_rfl)
    (of_decide_eq_true (by kernel_rfl)) (by unfold Func.isWrapper; rw [if_neg (by decide +kernel)]; exact ⟨rfl, rfl⟩)
    (fun os started H enc _ => lifted os started H enc)

end Go.Proofs.Ytadbmmdmibiikaa.lawRodlTables
