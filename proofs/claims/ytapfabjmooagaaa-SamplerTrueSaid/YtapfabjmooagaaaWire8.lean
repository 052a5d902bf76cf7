/- wire: awake; WireJoins; WireFalls. -/
import Derived.Test.YtapfabjmooagaaaWire7
namespace Go.Proofs.Ytapfabjmooagaaa.Wire
set_option linter.unusedSimpArgs false
set_option linter.unusedVariables false
open Go Go.AX Go.Proofs Ty Go.Proofs.Ytapfabjmooagaaa.Srt Go.Proofs.Ytapfabjmooagaaa.CatP
set_option maxHeartbeats 4000000
set_option maxRecDepth 10000

theorem joinOf_plain {R : List Sp} (h : Plain R) : JoinOf R R := ⟨h, fun _ => Iff.rfl, Nat.le_refl _, fun s hs => ⟨⟨s, hs, rfl⟩, ⟨s, hs, rfl⟩⟩⟩
theorem own1 (H : AH) (b e : Nat) (x y : Int) : SlcIn (H.add b (.cells [.int .i64 x, .int .i64 y] e 2)) 2 (some ⟨b, 0, none⟩) 1 ([(x, y)].map encP) :=
  SlcIn.own (R := [(x, y)].map encP) (rowsP _) (by simp) (by simp)
theorem fewS_ok (L : List Sp) (i : Nat) : ∀ s ∈ fewS L i, okSp s = true := fun s hs => (List.mem_filter.1 hs).2
end Go.Proofs.Ytapfabjmooagaaa.Wire
