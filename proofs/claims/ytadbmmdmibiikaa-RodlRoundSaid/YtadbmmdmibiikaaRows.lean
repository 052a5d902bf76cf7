/-
  No cell of these rows narrows 'for every input' (looked for: loops, veiled, ifaces, maps, wideKeys, modest, calm, conditions, laid).
  DERIVED. THE GIVEN ROWS OF THIS SEAT. 12 by the template 'for every input the law returns true; each argument reads behind the call as it read before'; 0 by the template 'total and deterministic' (their statements: YtadbmmdmibiikaaTotals.lean).
  GIVEN WITH THE SEED: the statements are not yours to turn. If you find one false, say at which input.
  Laid BY PROGRAM, IN A SANDBOX (cutbox-rows.mjs): the forced cells as the released guide's own fill.sh prints them over the translation 922d399cb9494113… (all of the seat's roots in one cut). By AI agents, Wed Nov 11 2026. No macro, syntax, notation, axiom, sorry.
-/
import Derived.Test.YtadbmmdmibiikaaChecked
import GoSem.Claim
import GoSem.ClaimJoined
import GoSem.ClaimMapViews
import Derived.JoinedTies
import Derived.KernelRfl
namespace Go.Proofs.Ytadbmmdmibiikaa
/- THE CELL 'sum', in the pinned program and in every row, IS THE sha256 OF THE DUMP (.gsa) THAT YtadbmmdmibiikaaProg.lean LOADS. Nothing in Lean hashes anything: it is a label: what it is worth is what the hold of that sum in a sandbox is worth. -/
noncomputable def Try.pinned : Pinned := { name := "ytadbmmdmibiikaa", sum := "922d399cb9494113d1fd26f7d4888a4e81d3981f90f4cd400963bd9407ca4e5f", checked := Try.checked }
namespace Rows
def none {H : Type} : Left H := { results := [], args := [] }

/-- 'haywardlaw13.RoseFiles': WHATEVER THE INPUT: true; the input reads as it did. -/
def roseFilesSpec : ChangeSpec := { name := "roseFiles", fn := fun _ => fun
  | [d1, d2, d3] => { results := [.lit (.bool true)], args := [d1, d2, d3] }
  | _ => none }
def roseFilesRow : OpenClaim := { program := "ytadbmmdmibiikaa", sum := "922d399cb9494113d1fd26f7d4888a4e81d3981f90f4cd400963bd9407ca4e5f", func := "hayward/haywardlaw13.RoseFiles", spec := "roseFiles", unfollowed := true, recurses := true, apart := false }
def RoseFilesSaid : Prop := roseFilesRow.holds Try.pinned (OpenSpec.ofChange roseFilesSpec)

/-- ITS FALSE NEIGHBOUR: 'it returns false'. Refute it at one input. -/
def roseFilesWrong : ChangeSpec := { name := "roseFiles", fn := fun _ => fun
  | [d1, d2, d3] => { results := [.lit (.bool false)], args := [d1, d2, d3] }
  | _ => none }
def RoseFilesWrongFalsely : Prop := roseFilesRow.holds Try.pinned (OpenSpec.ofChange roseFilesWrong)

/-- 'haywardlaw13.RoseRound': WHATEVER THE INPUT: true; the input reads as it did. -/
def roseRoundSpec : ChangeSpec := { name := "roseRound", fn := fun _ => fun
  | [d] => { results := [.lit (.bool true)], args := [d] }
  | _ => none }
def roseRoundRow : OpenClaim := { program := "ytadbmmdmibiikaa", sum := "922d399cb9494113d1fd26f7d4888a4e81d3981f90f4cd400963bd9407ca4e5f", func := "hayward/haywardlaw13.RoseRound", spec := "roseRound", unfollowed := true, recurses := true, apart := false }
def RoseRoundSaid : Prop := roseRoundRow.holds Try.pinned (OpenSpec.ofChange roseRoundSpec)

/-- ITS FALSE NEIGHBOUR: 'it returns false'. Refute it at one input. -/
def roseRoundWrong : ChangeSpec := { name := "roseRound", fn := fun _ => fun
  | [d] => { results := [.lit (.bool false)], args := [d] }
  | _ => none }
def RoseRoundWrongFalsely : Prop := roseRoundRow.holds Try.pinned (OpenSpec.ofChange roseRoundWrong)

/-- 'haywardlaw24.MemberNotes': WHATEVER THE INPUT: true; the input reads as it did. -/
def memberNotesSpec : ChangeSpec := { name := "memberNotes", fn := fun _ => fun
  | [d1, d2] => { results := [.lit (.bool true)], args := [d1, d2] }
  | _ => none }
def memberNotesRow : OpenClaim := { program := "ytadbmmdmibiikaa", sum := "922d399cb9494113d1fd26f7d4888a4e81d3981f90f4cd400963bd9407ca4e5f", func := "hayward/haywardlaw24.MemberNotes", spec := "memberNotes", unfollowed := true, recurses := true, apart := false }
def MemberNotesSaid : Prop := memberNotesRow.holds Try.pinned (OpenSpec.ofChange memberNotesSpec)

/-- ITS FALSE NEIGHBOUR: 'it returns false'. Refute it at one input. -/
def memberNotesWrong : ChangeSpec := { name := "memberNotes", fn := fun _ => fun
  | [d1, d2] => { results := [.lit (.bool false)], args := [d1, d2] }
  | _ => none }
def MemberNotesWrongFalsely : Prop := memberNotesRow.holds Try.pinned (OpenSpec.ofChange memberNotesWrong)

/-- 'haywardlaw19.WatchDoes': WHATEVER THE INPUT: true; the input reads as it did. -/
def watchDoesSpec : ChangeSpec := { name := "watchDoes", fn := fun _ => fun
  | [d] => { results := [.lit (.bool true)], args := [d] }
  | _ => none }
def watchDoesRow : OpenClaim := { program := "ytadbmmdmibiikaa", sum := "922d399cb9494113d1fd26f7d4888a4e81d3981f90f4cd400963bd9407ca4e5f", func := "hayward/haywardlaw19.WatchDoes", spec := "watchDoes", apart := false }
def WatchDoesSaid : Prop := watchDoesRow.holds Try.pinned (OpenSpec.ofChange watchDoesSpec)

/-- ITS FALSE NEIGHBOUR: 'it returns false'. Refute it at one input. -/
def watchDoesWrong : ChangeSpec := { name := "watchDoes", fn := fun _ => fun
  | [d] => { results := [.lit (.bool false)], args := [d] }
  | _ => none }
def WatchDoesWrongFalsely : Prop := watchDoesRow.holds Try.pinned (OpenSpec.ofChange watchDoesWrong)

/-- 'haywardlaw19.WatchOne': WHATEVER THE INPUT: true; the input reads as it did. -/
def watchOneSpec : ChangeSpec := { name := "watchOne", fn := fun _ => fun
  | [d] => { results := [.lit (.bool true)], args := [d] }
  | _ => none }
def watchOneRow : OpenClaim := { program := "ytadbmmdmibiikaa", sum := "922d399cb9494113d1fd26f7d4888a4e81d3981f90f4cd400963bd9407ca4e5f", func := "hayward/haywardlaw19.WatchOne", spec := "watchOne", apart := false }
def WatchOneSaid : Prop := watchOneRow.holds Try.pinned (OpenSpec.ofChange watchOneSpec)

/-- ITS FALSE NEIGHBOUR: 'it returns false'. Refute it at one input. -/
def watchOneWrong : ChangeSpec := { name := "watchOne", fn := fun _ => fun
  | [d] => { results := [.lit (.bool false)], args := [d] }
  | _ => none }
def WatchOneWrongFalsely : Prop := watchOneRow.holds Try.pinned (OpenSpec.ofChange watchOneWrong)

/-- 'haywardlaw19.WatchEnds': WHATEVER THE INPUT: true; the input reads as it did. -/
def watchEndsSpec : ChangeSpec := { name := "watchEnds", fn := fun _ => fun
  | [d] => { results := [.lit (.bool true)], args := [d] }
  | _ => none }
def watchEndsRow : OpenClaim := { program := "ytadbmmdmibiikaa", sum := "922d399cb9494113d1fd26f7d4888a4e81d3981f90f4cd400963bd9407ca4e5f", func := "hayward/haywardlaw19.WatchEnds", spec := "watchEnds", apart := false }
def WatchEndsSaid : Prop := watchEndsRow.holds Try.pinned (OpenSpec.ofChange watchEndsSpec)

/-- ITS FALSE NEIGHBOUR: 'it returns false'. Refute it at one input. -/
def watchEndsWrong : ChangeSpec := { name := "watchEnds", fn := fun _ => fun
  | [d] => { results := [.lit (.bool false)], args := [d] }
  | _ => none }
def WatchEndsWrongFalsely : Prop := watchEndsRow.holds Try.pinned (OpenSpec.ofChange watchEndsWrong)

/-- 'haywardlaw09.FileDoes': WHATEVER THE INPUT: true; the input reads as it did. -/
def fileDoesSpec : ChangeSpec := { name := "fileDoes", fn := fun _ => fun
  | [d1, d2, d3, d4] => { results := [.lit (.bool true)], args := [d1, d2, d3, d4] }
  | _ => none }
def fileDoesRow : OpenClaim := { program := "ytadbmmdmibiikaa", sum := "922d399cb9494113d1fd26f7d4888a4e81d3981f90f4cd400963bd9407ca4e5f", func := "hayward/haywardlaw09.FileDoes", spec := "fileDoes", unfollowed := true, recurses := true, apart := false }
def FileDoesSaid : Prop := fileDoesRow.holds Try.pinned (OpenSpec.ofChange fileDoesSpec)

/-- ITS FALSE NEIGHBOUR: 'it returns false'. Refute it at one input. -/
def fileDoesWrong : ChangeSpec := { name := "fileDoes", fn := fun _ => fun
  | [d1, d2, d3, d4] => { results := [.lit (.bool false)], args := [d1, d2, d3, d4] }
  | _ => none }
def FileDoesWrongFalsely : Prop := fileDoesRow.holds Try.pinned (OpenSpec.ofChange fileDoesWrong)

/-- 'haywardlaw11.RodlPuts': WHATEVER THE INPUT: true; the input reads as it did. -/
def rodlPutsSpec : ChangeSpec := { name := "rodlPuts", fn := fun _ => fun
  | [d1, d2] => { results := [.lit (.bool true)], args := [d1, d2] }
  | _ => none }
def rodlPutsRow : OpenClaim := { program := "ytadbmmdmibiikaa", sum := "922d399cb9494113d1fd26f7d4888a4e81d3981f90f4cd400963bd9407ca4e5f", func := "hayward/haywardlaw11.RodlPuts", spec := "rodlPuts", apart := false }
def RodlPutsSaid : Prop := rodlPutsRow.holds Try.pinned (OpenSpec.ofChange rodlPutsSpec)

/-- ITS FALSE NEIGHBOUR: 'it returns false'. Refute it at one input. -/
def rodlPutsWrong : ChangeSpec := { name := "rodlPuts", fn := fun _ => fun
  | [d1, d2] => { results := [.lit (.bool false)], args := [d1, d2] }
  | _ => none }
def RodlPutsWrongFalsely : Prop := rodlPutsRow.holds Try.pinned (OpenSpec.ofChange rodlPutsWrong)

/-- 'haywardlaw11.RodlTables': WHATEVER THE INPUT: true; the input reads as it did. -/
def rodlTablesSpec : ChangeSpec := { name := "rodlTables", fn := fun _ => fun
  | [d1, d2] => { results := [.lit (.bool true)], args := [d1, d2] }
  | _ => none }
def rodlTablesRow : OpenClaim := { program := "ytadbmmdmibiikaa", sum := "922d399cb9494113d1fd26f7d4888a4e81d3981f90f4cd400963bd9407ca4e5f", func := "hayward/haywardlaw11.RodlTables", spec := "rodlTables", apart := false }
def RodlTablesSaid : Prop := rodlTablesRow.holds Try.pinned (OpenSpec.ofChange rodlTablesSpec)

/-- ITS FALSE NEIGHBOUR: 'it returns false'. Refute it at one input. -/
def rodlTablesWrong : ChangeSpec := { name := "rodlTables", fn := fun _ => fun
  | [d1, d2] => { results := [.lit (.bool false)], args := [d1, d2] }
  | _ => none }
def RodlTablesWrongFalsely : Prop := rodlTablesRow.holds Try.pinned (OpenSpec.ofChange rodlTablesWrong)

/-- 'haywardlaw11.RodlRound': WHATEVER THE INPUT: true; the input reads as it did. -/
def rodlRoundSpec : ChangeSpec := { name := "rodlRound", fn := fun _ => fun
  | [d1, d2, d3, d4] => { results := [.lit (.bool true)], args := [d1, d2, d3, d4] }
  | _ => none }
def rodlRoundRow : OpenClaim := { program := "ytadbmmdmibiikaa", sum := "922d399cb9494113d1fd26f7d4888a4e81d3981f90f4cd400963bd9407ca4e5f", func := "hayward/haywardlaw11.RodlRound", spec := "rodlRound", apart := false }
def RodlRoundSaid : Prop := rodlRoundRow.holds Try.pinned (OpenSpec.ofChange rodlRoundSpec)

/-- ITS FALSE NEIGHBOUR: 'it returns false'. Refute it at one input. -/
def rodlRoundWrong : ChangeSpec := { name := "rodlRound", fn := fun _ => fun
  | [d1, d2, d3, d4] => { results := [.lit (.bool false)], args := [d1, d2, d3, d4] }
  | _ => none }
def RodlRoundWrongFalsely : Prop := rodlRoundRow.holds Try.pinned (OpenSpec.ofChange rodlRoundWrong)

/-- 'haywardlaw09.FileNew': WHATEVER THE INPUT: true; the input reads as it did. -/
def fileNewSpec : ChangeSpec := { name := "fileNew", fn := fun _ => fun
  | [d1, d2, d3, d4] => { results := [.lit (.bool true)], args := [d1, d2, d3, d4] }
  | _ => none }
def fileNewRow : OpenClaim := { program := "ytadbmmdmibiikaa", sum := "922d399cb9494113d1fd26f7d4888a4e81d3981f90f4cd400963bd9407ca4e5f", func := "hayward/haywardlaw09.FileNew", spec := "fileNew", unfollowed := true, recurses := true, apart := false }
def FileNewSaid : Prop := fileNewRow.holds Try.pinned (OpenSpec.ofChange fileNewSpec)

/-- ITS FALSE NEIGHBOUR: 'it returns false'. Refute it at one input. -/
def fileNewWrong : ChangeSpec := { name := "fileNew", fn := fun _ => fun
  | [d1, d2, d3, d4] => { results := [.lit (.bool false)], args := [d1, d2, d3, d4] }
  | _ => none }
def FileNewWrongFalsely : Prop := fileNewRow.holds Try.pinned (OpenSpec.ofChange fileNewWrong)

/-- 'haywardlaw09.FileKeeps': WHATEVER THE INPUT: true; the input reads as it did. -/
def fileKeepsSpec : ChangeSpec := { name := "fileKeeps", fn := fun _ => fun
  | [d1, d2, d3, d4] => { results := [.lit (.bool true)], args := [d1, d2, d3, d4] }
  | _ => none }
def fileKeepsRow : OpenClaim := { program := "ytadbmmdmibiikaa", sum := "922d399cb9494113d1fd26f7d4888a4e81d3981f90f4cd400963bd9407ca4e5f", func := "hayward/haywardlaw09.FileKeeps", spec := "fileKeeps", unfollowed := true, recurses := true, apart := false }
def FileKeepsSaid : Prop := fileKeepsRow.holds Try.pinned (OpenSpec.ofChange fileKeepsSpec)

/-- ITS FALSE NEIGHBOUR: 'it returns false'. Refute it at one input. -/
def fileKeepsWrong : ChangeSpec := { name := "fileKeeps", fn := fun _ => fun
  | [d1, d2, d3, d4] => { results := [.lit (.bool false)], args := [d1, d2, d3, d4] }
  | _ => none }
def FileKeepsWrongFalsely : Prop := fileKeepsRow.holds Try.pinned (OpenSpec.ofChange fileKeepsWrong)

/- THE SECOND FORM. 'bulk': how many values and letters a reading holds, each counted each time it is reached (what is shared counts as often as it is met; a slice's spare places count too). A statement '..UptoSaid' is the law's where the arguments, and the package variables that the reading takes, are together of bulk at most 1048576: NARROWER than '..Said'. Prove '..Said' where nothing that the law and all that it calls make is longer than what came in: it says more and counts as full. Else prove '..UptoSaid'. A law counts once. -/
mutual
def uptoBulk {H : Type} : DataW H → Nat
  | .lit (.string bytes) => bytes.length + 1
  | .lit _ => 1
  | .nil => 1
  | .ptr d => uptoBulk d + 1
  | .slice elems spare => uptoBulkAll elems + uptoBulkAll spare + 1
  | .agg parts => uptoBulkAll parts + 1
  | .iface _ d => uptoBulk d + 1
  | .map entries => uptoBulkEntries entries + 1
  | .held _ => 1
def uptoBulkAll {H : Type} : List (DataW H) → Nat
  | [] => 0
  | d :: r => uptoBulk d + uptoBulkAll r
def uptoBulkEntries {H : Type} : List (Lit × DataW H) → Nat
  | [] => 0
  | x :: r => uptoBulkEntry x + uptoBulkEntries r
def uptoBulkEntry {H : Type} : Lit × DataW H → Nat
  | (.string bytes, d) => bytes.length + uptoBulk d + 1
  | (_, d) => uptoBulk d + 1
 end
def uptoSmall : (H : Type) → List (DataW H) → Bool := fun _ ds => decide (uptoBulkAll ds ≤ 1048576)
def OpenSpec.upto (s : _root_.Go.ChangeSpec) : _root_.Go.OpenSpec := { _root_.Go.OpenSpec.ofChange s with cond := some uptoSmall }

/-- 'haywardlaw13.RoseFiles', WHERE WHAT IT READS IS OF BULK AT MOST 1048576: true; the input reads as it did. -/
def roseFilesUptoRow : OpenClaim := { program := "ytadbmmdmibiikaa", sum := "922d399cb9494113d1fd26f7d4888a4e81d3981f90f4cd400963bd9407ca4e5f", func := "hayward/haywardlaw13.RoseFiles", spec := "roseFiles", unfollowed := true, recurses := true, apart := false, narrowed := true }
def RoseFilesUptoSaid : Prop := roseFilesUptoRow.holds Try.pinned (OpenSpec.upto roseFilesSpec)

/-- 'haywardlaw13.RoseRound', WHERE WHAT IT READS IS OF BULK AT MOST 1048576: true; the input reads as it did. -/
def roseRoundUptoRow : OpenClaim := { program := "ytadbmmdmibiikaa", sum := "922d399cb9494113d1fd26f7d4888a4e81d3981f90f4cd400963bd9407ca4e5f", func := "hayward/haywardlaw13.RoseRound", spec := "roseRound", unfollowed := true, recurses := true, apart := false, narrowed := true }
def RoseRoundUptoSaid : Prop := roseRoundUptoRow.holds Try.pinned (OpenSpec.upto roseRoundSpec)

/-- 'haywardlaw24.MemberNotes', WHERE WHAT IT READS IS OF BULK AT MOST 1048576: true; the input reads as it did. -/
def memberNotesUptoRow : OpenClaim := { program := "ytadbmmdmibiikaa", sum := "922d399cb9494113d1fd26f7d4888a4e81d3981f90f4cd400963bd9407ca4e5f", func := "hayward/haywardlaw24.MemberNotes", spec := "memberNotes", unfollowed := true, recurses := true, apart := false, narrowed := true }
def MemberNotesUptoSaid : Prop := memberNotesUptoRow.holds Try.pinned (OpenSpec.upto memberNotesSpec)

/-- 'haywardlaw19.WatchDoes', WHERE WHAT IT READS IS OF BULK AT MOST 1048576: true; the input reads as it did. -/
def watchDoesUptoRow : OpenClaim := { program := "ytadbmmdmibiikaa", sum := "922d399cb9494113d1fd26f7d4888a4e81d3981f90f4cd400963bd9407ca4e5f", func := "hayward/haywardlaw19.WatchDoes", spec := "watchDoes", apart := false, narrowed := true }
def WatchDoesUptoSaid : Prop := watchDoesUptoRow.holds Try.pinned (OpenSpec.upto watchDoesSpec)

/-- 'haywardlaw19.WatchOne', WHERE WHAT IT READS IS OF BULK AT MOST 1048576: true; the input reads as it did. -/
def watchOneUptoRow : OpenClaim := { program := "ytadbmmdmibiikaa", sum := "922d399cb9494113d1fd26f7d4888a4e81d3981f90f4cd400963bd9407ca4e5f", func := "hayward/haywardlaw19.WatchOne", spec := "watchOne", apart := false, narrowed := true }
def WatchOneUptoSaid : Prop := watchOneUptoRow.holds Try.pinned (OpenSpec.upto watchOneSpec)

/-- 'haywardlaw19.WatchEnds', WHERE WHAT IT READS IS OF BULK AT MOST 1048576: true; the input reads as it did. -/
def watchEndsUptoRow : OpenClaim := { program := "ytadbmmdmibiikaa", sum := "922d399cb9494113d1fd26f7d4888a4e81d3981f90f4cd400963bd9407ca4e5f", func := "hayward/haywardlaw19.WatchEnds", spec := "watchEnds", apart := false, narrowed := true }
def WatchEndsUptoSaid : Prop := watchEndsUptoRow.holds Try.pinned (OpenSpec.upto watchEndsSpec)

/-- 'haywardlaw09.FileDoes', WHERE WHAT IT READS IS OF BULK AT MOST 1048576: true; the input reads as it did. -/
def fileDoesUptoRow : OpenClaim := { program := "ytadbmmdmibiikaa", sum := "922d399cb9494113d1fd26f7d4888a4e81d3981f90f4cd400963bd9407ca4e5f", func := "hayward/haywardlaw09.FileDoes", spec := "fileDoes", unfollowed := true, recurses := true, apart := false, narrowed := true }
def FileDoesUptoSaid : Prop := fileDoesUptoRow.holds Try.pinned (OpenSpec.upto fileDoesSpec)

/-- 'haywardlaw11.RodlPuts', WHERE WHAT IT READS IS OF BULK AT MOST 1048576: true; the input reads as it did. -/
def rodlPutsUptoRow : OpenClaim := { program := "ytadbmmdmibiikaa", sum := "922d399cb9494113d1fd26f7d4888a4e81d3981f90f4cd400963bd9407ca4e5f", func := "hayward/haywardlaw11.RodlPuts", spec := "rodlPuts", apart := false, narrowed := true }
def RodlPutsUptoSaid : Prop := rodlPutsUptoRow.holds Try.pinned (OpenSpec.upto rodlPutsSpec)

/-- 'haywardlaw11.RodlTables', WHERE WHAT IT READS IS OF BULK AT MOST 1048576: true; the input reads as it did. -/
def rodlTablesUptoRow : OpenClaim := { program := "ytadbmmdmibiikaa", sum := "922d399cb9494113d1fd26f7d4888a4e81d3981f90f4cd400963bd9407ca4e5f", func := "hayward/haywardlaw11.RodlTables", spec := "rodlTables", apart := false, narrowed := true }
def RodlTablesUptoSaid : Prop := rodlTablesUptoRow.holds Try.pinned (OpenSpec.upto rodlTablesSpec)

/-- 'haywardlaw11.RodlRound', WHERE WHAT IT READS IS OF BULK AT MOST 1048576: true; the input reads as it did. -/
def rodlRoundUptoRow : OpenClaim := { program := "ytadbmmdmibiikaa", sum := "922d399cb9494113d1fd26f7d4888a4e81d3981f90f4cd400963bd9407ca4e5f", func := "hayward/haywardlaw11.RodlRound", spec := "rodlRound", apart := false, narrowed := true }
def RodlRoundUptoSaid : Prop := rodlRoundUptoRow.holds Try.pinned (OpenSpec.upto rodlRoundSpec)

/-- 'haywardlaw09.FileNew', WHERE WHAT IT READS IS OF BULK AT MOST 1048576: true; the input reads as it did. -/
def fileNewUptoRow : OpenClaim := { program := "ytadbmmdmibiikaa", sum := "922d399cb9494113d1fd26f7d4888a4e81d3981f90f4cd400963bd9407ca4e5f", func := "hayward/haywardlaw09.FileNew", spec := "fileNew", unfollowed := true, recurses := true, apart := false, narrowed := true }
def FileNewUptoSaid : Prop := fileNewUptoRow.holds Try.pinned (OpenSpec.upto fileNewSpec)

/-- 'haywardlaw09.FileKeeps', WHERE WHAT IT READS IS OF BULK AT MOST 1048576: true; the input reads as it did. -/
def fileKeepsUptoRow : OpenClaim := { program := "ytadbmmdmibiikaa", sum := "922d399cb9494113d1fd26f7d4888a4e81d3981f90f4cd400963bd9407ca4e5f", func := "hayward/haywardlaw09.FileKeeps", spec := "fileKeeps", unfollowed := true, recurses := true, apart := false, narrowed := true }
def FileKeepsUptoSaid : Prop := fileKeepsUptoRow.holds Try.pinned (OpenSpec.upto fileKeepsSpec)

end Rows
end Go.Proofs.Ytadbmmdmibiikaa
