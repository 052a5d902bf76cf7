/- ifs: a deed among the arguments. -/
import Derived.Test.YtmkbpdlijfjgkaaDoorIfs13
import Derived.Test.YtmkbpdlijfjgkaaDoorAx8
namespace Go.Proofs.YtmkbpdlijfjgkaaDoor.Ifs
set_option linter.unusedSimpArgs false
set_option linter.unusedVariables false
open Go Go.AX Go.ChangeShapes Go.WideShapes Go.ChangeAt Go.RowKit Go.Proofs.YtmkbpdlijfjgkaaDoor.File
set_option maxRecDepth 100000

theorem u8_wf {x : Int} (h : (Lit.int .u8 x).wf = true) : 0 ≤ x ∧ x ≤ 255 := by
  simp [Lit.wf, IntKind.min, IntKind.max, IntKind.signed, IntKind.bits] at h
  omega
def DdIn (H : AH) (d : Dd) : Prop := SlcIn H 4 d.base d.cap (d.R.map enc) ∧ (0 ≤ d.k ∧ d.k ≤ 255) ∧ RcOk d.v ∧ ∀ r ∈ d.R, RcOk r
theorem open_deed {HT : Type} {ec : TypeId × Value → HT} {W : World} {sp : Nat → Bool} {held : Bool} {cs : List Value} (hl : cs.length = 10) (hc : Leafy ec Tryd.prog W 0 sp held [5, 3, 3, 3, 5, 5, 5, 5, 3, 33] cs) :
    ∃ d : Dd, cs = encD d ∧ SlcIn ⟨W, []⟩ 4 d.base d.cap (d.R.map enc) ∧ (0 ≤ d.k ∧ d.k ≤ 255) ∧ RcOk d.v ∧ ∀ r ∈ d.R, RcOk r := by
  obtain ⟨c0, c1, c2, c3, c4, c5, c6, c7, c8, c9, rfl⟩ := list10 hl
  obtain ⟨_, _, t0⟩ := hc 0 _ _ rfl rfl
  obtain ⟨a0, q0, _, w0⟩ := DataW.trod_int Tryd.underlying5 t0; cases q0
  obtain ⟨_, _, t1⟩ := hc 1 _ _ rfl rfl
  obtain ⟨a1, q1, _, w1⟩ := DataW.trod_int Tryd.underlying3 t1; cases q1
  obtain ⟨_, _, t2⟩ := hc 2 _ _ rfl rfl
  obtain ⟨a2, q2, _, w2⟩ := DataW.trod_int Tryd.underlying3 t2; cases q2
  obtain ⟨_, _, t3⟩ := hc 3 _ _ rfl rfl
  obtain ⟨a3, q3, _, w3⟩ := DataW.trod_int Tryd.underlying3 t3; cases q3
  obtain ⟨_, _, t4⟩ := hc 4 _ _ rfl rfl
  obtain ⟨a4, q4, _, w4⟩ := DataW.trod_int Tryd.underlying5 t4; cases q4
  obtain ⟨_, _, t5⟩ := hc 5 _ _ rfl rfl
  obtain ⟨a5, q5, _, w5⟩ := DataW.trod_int Tryd.underlying5 t5; cases q5
  obtain ⟨_, _, t6⟩ := hc 6 _ _ rfl rfl
  obtain ⟨a6, q6, _, w6⟩ := DataW.trod_int Tryd.underlying5 t6; cases q6
  obtain ⟨_, _, t7⟩ := hc 7 _ _ rfl rfl
  obtain ⟨a7, q7, _, w7⟩ := DataW.trod_int Tryd.underlying5 t7; cases q7
  obtain ⟨_, _, t8⟩ := hc 8 _ _ rfl rfl
  obtain ⟨a8, q8, _, w8⟩ := DataW.trod_int Tryd.underlying3 t8; cases q8
  obtain ⟨_, _, t9⟩ := hc 9 _ _ rfl rfl
  obtain ⟨b, n, cp, R, rfl, hlR, hs, hR⟩ := open_slcT (P := Tryd.prog) (sz := 4) Tryd.underlying33 (by kernel_rfl) (by simp) (show leafTs Tryd.prog 20 32 = some [5, 5, 5, 5] by kernel_rfl) rfl ⟨_, t9⟩
  obtain ⟨L, rfl, hw⟩ := rows_of (f := File.enc) (G := RcOk) (fun i r hr => by
    obtain ⟨hl, hc⟩ := hR i r hr
    obtain ⟨c0, c1, c2, c3, rfl⟩ := list4 hl
    obtain ⟨_, _, t0⟩ := hc 0 _ _ rfl rfl
    obtain ⟨a0, q0, _, w0⟩ := DataW.trod_int Tryd.underlying5 t0; cases q0
    obtain ⟨_, _, t1⟩ := hc 1 _ _ rfl rfl
    obtain ⟨a1, q1, _, w1⟩ := DataW.trod_int Tryd.underlying5 t1; cases q1
    obtain ⟨_, _, t2⟩ := hc 2 _ _ rfl rfl
    obtain ⟨a2, q2, _, w2⟩ := DataW.trod_int Tryd.underlying5 t2; cases q2
    obtain ⟨_, _, t3⟩ := hc 3 _ _ rfl rfl
    obtain ⟨a3, q3, _, w3⟩ := DataW.trod_int Tryd.underlying5 t3; cases q3
    exact ⟨⟨a0, a1, a2, a3⟩, rfl, u8_wf w0, u8_wf w1, u8_wf w2, u8_wf w3⟩)
  rw [List.length_map] at hlR; subst hlR
  exact ⟨⟨a0, a1, a2, a3, (a4, a5, a6, a7), a8, L, b, cp⟩, rfl, hs, u8_wf w0, ⟨u8_wf w4, u8_wf w5, u8_wf w6, u8_wf w7⟩, hw⟩
end Go.Proofs.YtmkbpdlijfjgkaaDoor.Ifs
