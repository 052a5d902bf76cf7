/-
  No cell of these rows narrows 'for every input' (looked for: loops, veiled, ifaces, maps, wideKeys, modest, calm, conditions, laid).
  DERIVED. THE GIVEN ROWS OF THIS SEAT. 4 by the template 'for every input the law returns true; each argument reads behind the call as it read before'; 0 by the template 'total and deterministic' (their statements: YtapfabjmooagaaaTotals.lean).
  GIVEN WITH THE SEED: the statements are not yours to turn. If you find one false, say at which input.
  Laid BY PROGRAM, IN A SANDBOX (cutbox-rows.mjs): the forced cells as the released guide's own fill.sh prints them over the translation 2844b42dbbcbbe45… (all of the seat's roots in one cut). By AI agents, Wed Nov 11 2026. No macro, syntax, notation, axiom, sorry.
-/
import Derived.Test.YtapfabjmooagaaaChecked
import GoSem.Claim
import GoSem.ClaimJoined
import GoSem.ClaimMapViews
import Derived.JoinedTies
import Derived.KernelRfl
namespace Go.Proofs.Ytapfabjmooagaaa
/- THE CELL 'sum', in the pinned program and in every row, IS THE sha256 OF THE DUMP (.gsa) THAT YtapfabjmooagaaaProg.lean LOADS. Nothing in Lean hashes anything: it is a label: what it is worth is what the hold of that sum in a sandbox is worth. -/
noncomputable def Try.pinned : Pinned := { name := "ytapfabjmooagaaa", sum := "2844b42dbbcbbe457044d52b7c6f1817be4ee1e3c6c6079f67c335dfb7a611d6", checked := Try.checked }
namespace Rows
def none {H : Type} : Left H := { results := [], args := [] }

/-- 'haywardlaw07.BaudMeasures': WHATEVER THE INPUT: true; the input reads as it did. -/
def baudMeasuresSpec : ChangeSpec := { name := "baudMeasures", fn := fun _ => fun
  | [d1, d2, d3, d4, d5, d6] => { results := [.lit (.bool true)], args := [d1, d2, d3, d4, d5, d6] }
  | _ => none }
def baudMeasuresRow : OpenClaim := { program := "ytapfabjmooagaaa", sum := "2844b42dbbcbbe457044d52b7c6f1817be4ee1e3c6c6079f67c335dfb7a611d6", func := "hayward/haywardlaw07.BaudMeasures", spec := "baudMeasures", unfollowed := true, recurses := true, apart := false }
def BaudMeasuresSaid : Prop := baudMeasuresRow.holds Try.pinned (OpenSpec.ofChange baudMeasuresSpec)

/-- ITS FALSE NEIGHBOUR: 'it returns false'. Refute it at one input. -/
def baudMeasuresWrong : ChangeSpec := { name := "baudMeasures", fn := fun _ => fun
  | [d1, d2, d3, d4, d5, d6] => { results := [.lit (.bool false)], args := [d1, d2, d3, d4, d5, d6] }
  | _ => none }
def BaudMeasuresWrongFalsely : Prop := baudMeasuresRow.holds Try.pinned (OpenSpec.ofChange baudMeasuresWrong)

/-- 'haywardlaw07.BaudFits': WHATEVER THE INPUT: true; the input reads as it did. -/
def baudFitsSpec : ChangeSpec := { name := "baudFits", fn := fun _ => fun
  | [d1, d2, d3] => { results := [.lit (.bool true)], args := [d1, d2, d3] }
  | _ => none }
def baudFitsRow : OpenClaim := { program := "ytapfabjmooagaaa", sum := "2844b42dbbcbbe457044d52b7c6f1817be4ee1e3c6c6079f67c335dfb7a611d6", func := "hayward/haywardlaw07.BaudFits", spec := "baudFits", unfollowed := true, recurses := true, apart := false }
def BaudFitsSaid : Prop := baudFitsRow.holds Try.pinned (OpenSpec.ofChange baudFitsSpec)

/-- ITS FALSE NEIGHBOUR: 'it returns false'. Refute it at one input. -/
def baudFitsWrong : ChangeSpec := { name := "baudFits", fn := fun _ => fun
  | [d1, d2, d3] => { results := [.lit (.bool false)], args := [d1, d2, d3] }
  | _ => none }
def BaudFitsWrongFalsely : Prop := baudFitsRow.holds Try.pinned (OpenSpec.ofChange baudFitsWrong)

/-- 'haywardlaw05.SamplerHears': WHATEVER THE INPUT: true; the input reads as it did. -/
def samplerHearsSpec : ChangeSpec := { name := "samplerHears", fn := fun _ => fun
  | [d1, d2, d3, d4] => { results := [.lit (.bool true)], args := [d1, d2, d3, d4] }
  | _ => none }
def samplerHearsRow : OpenClaim := { program := "ytapfabjmooagaaa", sum := "2844b42dbbcbbe457044d52b7c6f1817be4ee1e3c6c6079f67c335dfb7a611d6", func := "hayward/haywardlaw05.SamplerHears", spec := "samplerHears", unfollowed := true, recurses := true, apart := false }
def SamplerHearsSaid : Prop := samplerHearsRow.holds Try.pinned (OpenSpec.ofChange samplerHearsSpec)

/-- ITS FALSE NEIGHBOUR: 'it returns false'. Refute it at one input. -/
def samplerHearsWrong : ChangeSpec := { name := "samplerHears", fn := fun _ => fun
  | [d1, d2, d3, d4] => { results := [.lit (.bool false)], args := [d1, d2, d3, d4] }
  | _ => none }
def SamplerHearsWrongFalsely : Prop := samplerHearsRow.holds Try.pinned (OpenSpec.ofChange samplerHearsWrong)

/-- 'haywardlaw05.SamplerTrue': WHATEVER THE INPUT: true; the input reads as it did. -/
def samplerTrueSpec : ChangeSpec := { name := "samplerTrue", fn := fun _ => fun
  | [d1, d2, d3, d4] => { results := [.lit (.bool true)], args := [d1, d2, d3, d4] }
  | _ => none }
def samplerTrueRow : OpenClaim := { program := "ytapfabjmooagaaa", sum := "2844b42dbbcbbe457044d52b7c6f1817be4ee1e3c6c6079f67c335dfb7a611d6", func := "hayward/haywardlaw05.SamplerTrue", spec := "samplerTrue", unfollowed := true, recurses := true, apart := false }
def SamplerTrueSaid : Prop := samplerTrueRow.holds Try.pinned (OpenSpec.ofChange samplerTrueSpec)

/-- ITS FALSE NEIGHBOUR: 'it returns false'. Refute it at one input. -/
def samplerTrueWrong : ChangeSpec := { name := "samplerTrue", fn := fun _ => fun
  | [d1, d2, d3, d4] => { results := [.lit (.bool false)], args := [d1, d2, d3, d4] }
  | _ => none }
def SamplerTrueWrongFalsely : Prop := samplerTrueRow.holds Try.pinned (OpenSpec.ofChange samplerTrueWrong)

/- THE SECOND FORM. 'bulk': how many values and letters a reading holds, each counted each time it is reached (what is shared counts as often as it is met; a slice's spare places count too). A statement '..UptoSaid' is the law's where the arguments, and the package variables that the reading takes, are together of bulk at most 1048576: NARROWER than '..Said'. Prove '..Said' where nothing that the law and all that it calls make is longer than what came in: it says more and counts as full. Else prove '..UptoSaid'. A law counts once. -/
mutual
def uptoBulk {H : Type} : DataW H → Nat
  | .lit (.string bytes) => bytes.length + 1
  | .lit _ => 1
  | .nil => 1
  | .ptr d => uptoBulk d + 1
  | .slice elems spare => uptoBulkAll elems + uptoBulkAll spare + 1
  | .agg parts => uptoBulkAll parts + 1
  | .iface _ d => uptoBulk d + 1
  | .map entries => uptoBulkEntries entries + 1
  | .held _ => 1
def uptoBulkAll {H : Type} : List (DataW H) → Nat
  | [] => 0
  | d :: r => uptoBulk d + uptoBulkAll r
def uptoBulkEntries {H : Type} : List (Lit × DataW H) → Nat
  | [] => 0
  | x :: r => uptoBulkEntry x + uptoBulkEntries r
def uptoBulkEntry {H : Type} : Lit × DataW H → Nat
  | (.string bytes, d) => bytes.length + uptoBulk d + 1
  | (_, d) => uptoBulk d + 1
 end
def uptoSmall : (H : Type) → List (DataW H) → Bool := fun _ ds => decide (uptoBulkAll ds ≤ 1048576)
def OpenSpec.upto (s : _root_.Go.ChangeSpec) : _root_.Go.OpenSpec := { _root_.Go.OpenSpec.ofChange s with cond := some uptoSmall }

/-- 'haywardlaw07.BaudMeasures', WHERE WHAT IT READS IS OF BULK AT MOST 1048576: true; the input reads as it did. -/
def baudMeasuresUptoRow : OpenClaim := { program := "ytapfabjmooagaaa", sum := "2844b42dbbcbbe457044d52b7c6f1817be4ee1e3c6c6079f67c335dfb7a611d6", func := "hayward/haywardlaw07.BaudMeasures", spec := "baudMeasures", unfollowed := true, recurses := true, apart := false, narrowed := true }
def BaudMeasuresUptoSaid : Prop := baudMeasuresUptoRow.holds Try.pinned (OpenSpec.upto baudMeasuresSpec)

/-- 'haywardlaw07.BaudFits', WHERE WHAT IT READS IS OF BULK AT MOST 1048576: true; the input reads as it did. -/
def baudFitsUptoRow : OpenClaim := { program := "ytapfabjmooagaaa", sum := "2844b42dbbcbbe457044d52b7c6f1817be4ee1e3c6c6079f67c335dfb7a611d6", func := "hayward/haywardlaw07.BaudFits", spec := "baudFits", unfollowed := true, recurses := true, apart := false, narrowed := true }
def BaudFitsUptoSaid : Prop := baudFitsUptoRow.holds Try.pinned (OpenSpec.upto baudFitsSpec)

/-- 'haywardlaw05.SamplerHears', WHERE WHAT IT READS IS OF BULK AT MOST 1048576: true; the input reads as it did. -/
def samplerHearsUptoRow : OpenClaim := { program := "ytapfabjmooagaaa", sum := "2844b42dbbcbbe457044d52b7c6f1817be4ee1e3c6c6079f67c335dfb7a611d6", func := "hayward/haywardlaw05.SamplerHears", spec := "samplerHears", unfollowed := true, recurses := true, apart := false, narrowed := true }
def SamplerHearsUptoSaid : Prop := samplerHearsUptoRow.holds Try.pinned (OpenSpec.upto samplerHearsSpec)

/-- 'haywardlaw05.SamplerTrue', WHERE WHAT IT READS IS OF BULK AT MOST 1048576: true; the input reads as it did. -/
def samplerTrueUptoRow : OpenClaim := { program := "ytapfabjmooagaaa", sum := "2844b42dbbcbbe457044d52b7c6f1817be4ee1e3c6c6079f67c335dfb7a611d6", func := "hayward/haywardlaw05.SamplerTrue", spec := "samplerTrue", unfollowed := true, recurses := true, apart := false, narrowed := true }
def SamplerTrueUptoSaid : Prop := samplerTrueUptoRow.holds Try.pinned (OpenSpec.upto samplerTrueSpec)

end Rows
end Go.Proofs.Ytapfabjmooagaaa
