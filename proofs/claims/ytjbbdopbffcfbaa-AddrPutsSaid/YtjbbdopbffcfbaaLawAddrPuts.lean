/- For every input AddrPuts answers true and leaves its arguments as they were. No condition. -/
import Derived.Test.YtjbbdopbffcfbaaAddr3
import Derived.Test.YtjbbdopbffcfbaaAx8
import Derived.Test.YtjbbdopbffcfbaaRows
namespace Go.Proofs.Ytjbbdopbffcfbaa.lawAddrPuts
set_option linter.unusedSimpArgs false
set_option linter.unusedVariables false
open Go Go.AX Go.ChangeShapes Go.WideShapes Go.ChangeAt Go.RowKit
set_option linter.unusedVariables false

theorem own : ownKnob Try.prog.godebug = none := by kernel_rfl
theorem laidOut : laidOutB Try.prog = true := by kernel_rfl

set_option maxRecDepth 100000 in
theorem contract (H : Type) (enc : TypeId × Value → H) (W : World) (base : Nat) (args : Array Value) (ds gs : List (DataW H)) (before : List MemPlace)
    (hval : ∀ (j : Nat) t v, Try.f3.params[j]? = some t → args[j]? = some v → Value.okWide Try.prog W .any base t v)
    (hW : DataW.Whole enc Try.prog Try.f3.params.toList Rows.addrPutsSpec.vars false W args.toList ds gs before) :
    Calls Try.prog 3 args W fun e W' => ∃ v, e = .returned v ∧ Rows.addrPutsSpec.post enc Try.prog Try.f3 false true false false W args v W' := by
  have hW' := hW
  obtain ⟨p, q, hA0, hV, rfl, hfz, hnd⟩ := hW
  have hA : DataW.TrodAll enc Try.prog W 0 (fun _ => true) true Try.f3.params.toList args.toList ds p := hA0
  rw [Try.params3] at hA hval
  obtain ⟨v0, v1, d0, d1, p0, p1, rfl, rfl, rfl, h0, h1⟩ := trodAll_two hA
  obtain ⟨rfl, rfl⟩ := trodVars_none hV
  obtain ⟨k0, k1⟩ := okw2 hval
  obtain ⟨c0, c1, c2, y0, y1, y2, m, rfl, rfl, rfl, e0, e1, e2⟩ := Go.Joins.open_agg3 (Try.underlying23) (by kernel_rfl) (by kernel_rfl) k0 h0
  obtain ⟨a, ha, _, _⟩ := DataW.trod_int Try.underlying3 e0
  obtain ⟨b, hb, _, _⟩ := DataW.trod_int Try.underlying3 e1
  obtain ⟨c, hc, _, _⟩ := DataW.trod_int Try.underlying3 e2
  cases ha; cases hb; cases hc
  obtain ⟨ns, hn, rfl, hwf⟩ := open_arr_int (P := Try.prog) Try.underlying24 Try.underlying5 (by kernel_rfl) (by kernel_rfl) k1 h1
  match ns, hn with
  | [x, y], _ =>
    exact law_post laidOut (by kernel_rfl) rfl rfl Try.underlying4 hW' rfl rfl rfl
      ((AddrPuts_c a b c x y (byte_wf (hwf x (by simp))) (byte_wf (hwf y (by simp))) _).mono fun v H' h => ⟨h.1, h.2 ▸ rfl⟩)

set_option maxRecDepth 100000 in
theorem lifted (os : Os) (started : os.Started) (H : Type) (enc : TypeId × Value → H) :
    ReturnsInHanded {} Try.checked os 3 .any (Rows.addrPutsSpec.pre6 enc Try.prog Try.f3 Rows.addrPutsRow.domain false) (Rows.addrPutsSpec.post enc Try.prog Try.f3 false true false false) := by
  refine returnsInHanded_of_change_sized (C := Try.checked) own started (by kernel_rfl) Try.func3
    (ChangeSpec.witness6 (enc := enc) (C := Try.checked) false ⟨#[], #[.agg #[.int .i64 0, .int .i64 0, .int .i64 0], .agg #[.int .u8 0, .int .u8 0]], []⟩ 8 (by kernel_rfl) (by kernel_rfl) (by kernel_rfl) (by kernel_rfl)) ?_
  intro W base args ds gs before hval hW _ _ _
  exact contract H enc W base args ds gs before hval hW

theorem proved : Rows.AddrPutsSaid :=
  OpenClaim.holds_of_wide 3 Try.f3 rfl rfl rfl rfl rfl rfl rfl ⟨rfl, rfl, rfl, rfl, rfl⟩ rfl rfl rfl rfl rfl (by kernel_rfl) Try.func3 (by kernel_rfl)
    (of_decide_eq_true (by kernel_rfl)) (by unfold Func.isWrapper; rw [if_neg (by decide +kernel)]; exact ⟨rfl, rfl⟩)
    (fun os started H enc _ => lifted os started H enc)

end Go.Proofs.Ytjbbdopbffcfbaa.lawAddrPuts
