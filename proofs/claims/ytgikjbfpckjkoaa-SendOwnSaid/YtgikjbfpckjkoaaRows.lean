/-
  No cell of these rows narrows 'for every input' (looked for: loops, veiled, ifaces, maps, wideKeys, modest, calm, conditions, laid).
  DERIVED. THE GIVEN ROWS OF THIS SEAT. 12 by the template 'for every input the law returns true; each argument reads behind the call as it read before'; 0 by the template 'total and deterministic' (their statements: YtgikjbfpckjkoaaTotals.lean).
  GIVEN WITH THE SEED: the statements are not yours to turn. If you find one false, say at which input.
  Laid BY PROGRAM, IN A SANDBOX (cutbox-rows.mjs): the forced cells as the released guide's own fill.sh prints them over the translation 24260e0429a36434… (all of the seat's roots in one cut). By AI agents, Wed Nov 11 2026. No macro, syntax, notation, axiom, sorry.
-/
import Derived.Test.YtgikjbfpckjkoaaChecked
import GoSem.Claim
import GoSem.ClaimJoined
import GoSem.ClaimMapViews
import Derived.JoinedTies
import Derived.KernelRfl
namespace Go.Proofs.Ytgikjbfpckjkoaa
/- THE CELL 'sum', in the pinned program and in every row, IS THE sha256 OF THE DUMP (.gsa) THAT YtgikjbfpckjkoaaProg.lean LOADS. Nothing in Lean hashes anything: it is a label: what it is worth is what the hold of that sum in a sandbox is worth. -/
noncomputable def Try.pinned : Pinned := { name := "ytgikjbfpckjkoaa", sum := "24260e0429a36434f085cb9bdf90349ff742b00f1ec7a7f910c15a6c75a5321c", checked := Try.checked }
namespace Rows
def none {H : Type} : Left H := { results := [], args := [] }

/-- 'haywardlaw18.BaptizeRuns': WHATEVER THE INPUT: true; the input reads as it did. -/
def baptizeRunsSpec : ChangeSpec := { name := "baptizeRuns", fn := fun _ => fun
  | [d1, d2, d3, d4] => { results := [.lit (.bool true)], args := [d1, d2, d3, d4] }
  | _ => none }
def baptizeRunsRow : OpenClaim := { program := "ytgikjbfpckjkoaa", sum := "24260e0429a36434f085cb9bdf90349ff742b00f1ec7a7f910c15a6c75a5321c", func := "hayward/haywardlaw18.BaptizeRuns", spec := "baptizeRuns", unfollowed := true, recurses := true, apart := false }
def BaptizeRunsSaid : Prop := baptizeRunsRow.holds Try.pinned (OpenSpec.ofChange baptizeRunsSpec)

/-- ITS FALSE NEIGHBOUR: 'it returns false'. Refute it at one input. -/
def baptizeRunsWrong : ChangeSpec := { name := "baptizeRuns", fn := fun _ => fun
  | [d1, d2, d3, d4] => { results := [.lit (.bool false)], args := [d1, d2, d3, d4] }
  | _ => none }
def BaptizeRunsWrongFalsely : Prop := baptizeRunsRow.holds Try.pinned (OpenSpec.ofChange baptizeRunsWrong)

/-- 'haywardlaw21.ReqPuts': WHATEVER THE INPUT: true; the input reads as it did. -/
def reqPutsSpec : ChangeSpec := { name := "reqPuts", fn := fun _ => fun
  | [d1, d2] => { results := [.lit (.bool true)], args := [d1, d2] }
  | _ => none }
def reqPutsRow : OpenClaim := { program := "ytgikjbfpckjkoaa", sum := "24260e0429a36434f085cb9bdf90349ff742b00f1ec7a7f910c15a6c75a5321c", func := "hayward/haywardlaw21.ReqPuts", spec := "reqPuts", apart := false }
def ReqPutsSaid : Prop := reqPutsRow.holds Try.pinned (OpenSpec.ofChange reqPutsSpec)

/-- ITS FALSE NEIGHBOUR: 'it returns false'. Refute it at one input. -/
def reqPutsWrong : ChangeSpec := { name := "reqPuts", fn := fun _ => fun
  | [d1, d2] => { results := [.lit (.bool false)], args := [d1, d2] }
  | _ => none }
def ReqPutsWrongFalsely : Prop := reqPutsRow.holds Try.pinned (OpenSpec.ofChange reqPutsWrong)

/-- 'haywardlaw21.ReqAnswers': WHATEVER THE INPUT: true; the input reads as it did. -/
def reqAnswersSpec : ChangeSpec := { name := "reqAnswers", fn := fun _ => fun
  | [d1, d2] => { results := [.lit (.bool true)], args := [d1, d2] }
  | _ => none }
def reqAnswersRow : OpenClaim := { program := "ytgikjbfpckjkoaa", sum := "24260e0429a36434f085cb9bdf90349ff742b00f1ec7a7f910c15a6c75a5321c", func := "hayward/haywardlaw21.ReqAnswers", spec := "reqAnswers", apart := false }
def ReqAnswersSaid : Prop := reqAnswersRow.holds Try.pinned (OpenSpec.ofChange reqAnswersSpec)

/-- ITS FALSE NEIGHBOUR: 'it returns false'. Refute it at one input. -/
def reqAnswersWrong : ChangeSpec := { name := "reqAnswers", fn := fun _ => fun
  | [d1, d2] => { results := [.lit (.bool false)], args := [d1, d2] }
  | _ => none }
def ReqAnswersWrongFalsely : Prop := reqAnswersRow.holds Try.pinned (OpenSpec.ofChange reqAnswersWrong)

/-- 'haywardlaw21.ReqRound': WHATEVER THE INPUT: true; the input reads as it did. -/
def reqRoundSpec : ChangeSpec := { name := "reqRound", fn := fun _ => fun
  | [d1, d2, d3] => { results := [.lit (.bool true)], args := [d1, d2, d3] }
  | _ => none }
def reqRoundRow : OpenClaim := { program := "ytgikjbfpckjkoaa", sum := "24260e0429a36434f085cb9bdf90349ff742b00f1ec7a7f910c15a6c75a5321c", func := "hayward/haywardlaw21.ReqRound", spec := "reqRound", apart := false }
def ReqRoundSaid : Prop := reqRoundRow.holds Try.pinned (OpenSpec.ofChange reqRoundSpec)

/-- ITS FALSE NEIGHBOUR: 'it returns false'. Refute it at one input. -/
def reqRoundWrong : ChangeSpec := { name := "reqRound", fn := fun _ => fun
  | [d1, d2, d3] => { results := [.lit (.bool false)], args := [d1, d2, d3] }
  | _ => none }
def ReqRoundWrongFalsely : Prop := reqRoundRow.holds Try.pinned (OpenSpec.ofChange reqRoundWrong)

/-- 'haywardlaw18.BaptizeSafe': WHATEVER THE INPUT: true; the input reads as it did. -/
def baptizeSafeSpec : ChangeSpec := { name := "baptizeSafe", fn := fun _ => fun
  | [d1, d2, d3] => { results := [.lit (.bool true)], args := [d1, d2, d3] }
  | _ => none }
def baptizeSafeRow : OpenClaim := { program := "ytgikjbfpckjkoaa", sum := "24260e0429a36434f085cb9bdf90349ff742b00f1ec7a7f910c15a6c75a5321c", func := "hayward/haywardlaw18.BaptizeSafe", spec := "baptizeSafe", unfollowed := true, recurses := true, apart := false }
def BaptizeSafeSaid : Prop := baptizeSafeRow.holds Try.pinned (OpenSpec.ofChange baptizeSafeSpec)

/-- ITS FALSE NEIGHBOUR: 'it returns false'. Refute it at one input. -/
def baptizeSafeWrong : ChangeSpec := { name := "baptizeSafe", fn := fun _ => fun
  | [d1, d2, d3] => { results := [.lit (.bool false)], args := [d1, d2, d3] }
  | _ => none }
def BaptizeSafeWrongFalsely : Prop := baptizeSafeRow.holds Try.pinned (OpenSpec.ofChange baptizeSafeWrong)

/-- 'haywardlaw12.CheckTables': WHATEVER THE INPUT: true; the input reads as it did. -/
def checkTablesSpec : ChangeSpec := { name := "checkTables", fn := fun _ => fun
  | [d1, d2] => { results := [.lit (.bool true)], args := [d1, d2] }
  | _ => none }
def checkTablesRow : OpenClaim := { program := "ytgikjbfpckjkoaa", sum := "24260e0429a36434f085cb9bdf90349ff742b00f1ec7a7f910c15a6c75a5321c", func := "hayward/haywardlaw12.CheckTables", spec := "checkTables", unfollowed := true, recurses := true, apart := false }
def CheckTablesSaid : Prop := checkTablesRow.holds Try.pinned (OpenSpec.ofChange checkTablesSpec)

/-- ITS FALSE NEIGHBOUR: 'it returns false'. Refute it at one input. -/
def checkTablesWrong : ChangeSpec := { name := "checkTables", fn := fun _ => fun
  | [d1, d2] => { results := [.lit (.bool false)], args := [d1, d2] }
  | _ => none }
def CheckTablesWrongFalsely : Prop := checkTablesRow.holds Try.pinned (OpenSpec.ofChange checkTablesWrong)

/-- 'haywardlaw12.CheckAlone': WHATEVER THE INPUT: true; the input reads as it did. -/
def checkAloneSpec : ChangeSpec := { name := "checkAlone", fn := fun _ => fun
  | [d] => { results := [.lit (.bool true)], args := [d] }
  | _ => none }
def checkAloneRow : OpenClaim := { program := "ytgikjbfpckjkoaa", sum := "24260e0429a36434f085cb9bdf90349ff742b00f1ec7a7f910c15a6c75a5321c", func := "hayward/haywardlaw12.CheckAlone", spec := "checkAlone", unfollowed := true, recurses := true, apart := false }
def CheckAloneSaid : Prop := checkAloneRow.holds Try.pinned (OpenSpec.ofChange checkAloneSpec)

/-- ITS FALSE NEIGHBOUR: 'it returns false'. Refute it at one input. -/
def checkAloneWrong : ChangeSpec := { name := "checkAlone", fn := fun _ => fun
  | [d] => { results := [.lit (.bool false)], args := [d] }
  | _ => none }
def CheckAloneWrongFalsely : Prop := checkAloneRow.holds Try.pinned (OpenSpec.ofChange checkAloneWrong)

/-- 'haywardlaw02.WireJoins': WHATEVER THE INPUT: true; the input reads as it did. -/
def wireJoinsSpec : ChangeSpec := { name := "wireJoins", fn := fun _ => fun
  | [d1, d2] => { results := [.lit (.bool true)], args := [d1, d2] }
  | _ => none }
def wireJoinsRow : OpenClaim := { program := "ytgikjbfpckjkoaa", sum := "24260e0429a36434f085cb9bdf90349ff742b00f1ec7a7f910c15a6c75a5321c", func := "hayward/haywardlaw02.WireJoins", spec := "wireJoins", unfollowed := true, recurses := true, apart := false }
def WireJoinsSaid : Prop := wireJoinsRow.holds Try.pinned (OpenSpec.ofChange wireJoinsSpec)

/-- ITS FALSE NEIGHBOUR: 'it returns false'. Refute it at one input. -/
def wireJoinsWrong : ChangeSpec := { name := "wireJoins", fn := fun _ => fun
  | [d1, d2] => { results := [.lit (.bool false)], args := [d1, d2] }
  | _ => none }
def WireJoinsWrongFalsely : Prop := wireJoinsRow.holds Try.pinned (OpenSpec.ofChange wireJoinsWrong)

/-- 'haywardlaw02.WireFalls': WHATEVER THE INPUT: true; the input reads as it did. -/
def wireFallsSpec : ChangeSpec := { name := "wireFalls", fn := fun _ => fun
  | [d1, d2, d3] => { results := [.lit (.bool true)], args := [d1, d2, d3] }
  | _ => none }
def wireFallsRow : OpenClaim := { program := "ytgikjbfpckjkoaa", sum := "24260e0429a36434f085cb9bdf90349ff742b00f1ec7a7f910c15a6c75a5321c", func := "hayward/haywardlaw02.WireFalls", spec := "wireFalls", unfollowed := true, recurses := true, apart := false }
def WireFallsSaid : Prop := wireFallsRow.holds Try.pinned (OpenSpec.ofChange wireFallsSpec)

/-- ITS FALSE NEIGHBOUR: 'it returns false'. Refute it at one input. -/
def wireFallsWrong : ChangeSpec := { name := "wireFalls", fn := fun _ => fun
  | [d1, d2, d3] => { results := [.lit (.bool false)], args := [d1, d2, d3] }
  | _ => none }
def WireFallsWrongFalsely : Prop := wireFallsRow.holds Try.pinned (OpenSpec.ofChange wireFallsWrong)

/-- 'haywardlaw02.WirePulls': WHATEVER THE INPUT: true; the input reads as it did. -/
def wirePullsSpec : ChangeSpec := { name := "wirePulls", fn := fun _ => fun
  | [d1, d2, d3] => { results := [.lit (.bool true)], args := [d1, d2, d3] }
  | _ => none }
def wirePullsRow : OpenClaim := { program := "ytgikjbfpckjkoaa", sum := "24260e0429a36434f085cb9bdf90349ff742b00f1ec7a7f910c15a6c75a5321c", func := "hayward/haywardlaw02.WirePulls", spec := "wirePulls", unfollowed := true, recurses := true, apart := false }
def WirePullsSaid : Prop := wirePullsRow.holds Try.pinned (OpenSpec.ofChange wirePullsSpec)

/-- ITS FALSE NEIGHBOUR: 'it returns false'. Refute it at one input. -/
def wirePullsWrong : ChangeSpec := { name := "wirePulls", fn := fun _ => fun
  | [d1, d2, d3] => { results := [.lit (.bool false)], args := [d1, d2, d3] }
  | _ => none }
def WirePullsWrongFalsely : Prop := wirePullsRow.holds Try.pinned (OpenSpec.ofChange wirePullsWrong)

/-- 'haywardlaw04.SendSpans': WHATEVER THE INPUT: true; the input reads as it did. -/
def sendSpansSpec : ChangeSpec := { name := "sendSpans", fn := fun _ => fun
  | [d1, d2, d3, d4] => { results := [.lit (.bool true)], args := [d1, d2, d3, d4] }
  | _ => none }
def sendSpansRow : OpenClaim := { program := "ytgikjbfpckjkoaa", sum := "24260e0429a36434f085cb9bdf90349ff742b00f1ec7a7f910c15a6c75a5321c", func := "hayward/haywardlaw04.SendSpans", spec := "sendSpans", unfollowed := true, recurses := true, apart := false }
def SendSpansSaid : Prop := sendSpansRow.holds Try.pinned (OpenSpec.ofChange sendSpansSpec)

/-- ITS FALSE NEIGHBOUR: 'it returns false'. Refute it at one input. -/
def sendSpansWrong : ChangeSpec := { name := "sendSpans", fn := fun _ => fun
  | [d1, d2, d3, d4] => { results := [.lit (.bool false)], args := [d1, d2, d3, d4] }
  | _ => none }
def SendSpansWrongFalsely : Prop := sendSpansRow.holds Try.pinned (OpenSpec.ofChange sendSpansWrong)

/-- 'haywardlaw04.SendOwn': WHATEVER THE INPUT: true; the input reads as it did. -/
def sendOwnSpec : ChangeSpec := { name := "sendOwn", fn := fun _ => fun
  | [d1, d2, d3, d4] => { results := [.lit (.bool true)], args := [d1, d2, d3, d4] }
  | _ => none }
def sendOwnRow : OpenClaim := { program := "ytgikjbfpckjkoaa", sum := "24260e0429a36434f085cb9bdf90349ff742b00f1ec7a7f910c15a6c75a5321c", func := "hayward/haywardlaw04.SendOwn", spec := "sendOwn", unfollowed := true, recurses := true, apart := false }
def SendOwnSaid : Prop := sendOwnRow.holds Try.pinned (OpenSpec.ofChange sendOwnSpec)

/-- ITS FALSE NEIGHBOUR: 'it returns false'. Refute it at one input. -/
def sendOwnWrong : ChangeSpec := { name := "sendOwn", fn := fun _ => fun
  | [d1, d2, d3, d4] => { results := [.lit (.bool false)], args := [d1, d2, d3, d4] }
  | _ => none }
def SendOwnWrongFalsely : Prop := sendOwnRow.holds Try.pinned (OpenSpec.ofChange sendOwnWrong)

/- THE SECOND FORM. 'bulk': how many values and letters a reading holds, each counted each time it is reached (what is shared counts as often as it is met; a slice's spare places count too). A statement '..UptoSaid' is the law's where the arguments, and the package variables that the reading takes, are together of bulk at most 1048576: NARROWER than '..Said'. Prove '..Said' where nothing that the law and all that it calls make is longer than what came in: it says more and counts as full. Else prove '..UptoSaid'. A law counts once. -/
mutual
def uptoBulk {H : Type} : DataW H → Nat
  | .lit (.string bytes) => bytes.length + 1
  | .lit _ => 1
  | .nil => 1
  | .ptr d => uptoBulk d + 1
  | .slice elems spare => uptoBulkAll elems + uptoBulkAll spare + 1
  | .agg parts => uptoBulkAll parts + 1
  | .iface _ d => uptoBulk d + 1
  | .map entries => uptoBulkEntries entries + 1
  | .held _ => 1
def uptoBulkAll {H : Type} : List (DataW H) → Nat
  | [] => 0
  | d :: r => uptoBulk d + uptoBulkAll r
def uptoBulkEntries {H : Type} : List (Lit × DataW H) → Nat
  | [] => 0
  | x :: r => uptoBulkEntry x + uptoBulkEntries r
def uptoBulkEntry {H : Type} : Lit × DataW H → Nat
  | (.string bytes, d) => bytes.length + uptoBulk d + 1
  | (_, d) => uptoBulk d + 1
 end
def uptoSmall : (H : Type) → List (DataW H) → Bool := fun _ ds => decide (uptoBulkAll ds ≤ 1048576)
def OpenSpec.upto (s : _root_.Go.ChangeSpec) : _root_.Go.OpenSpec := { _root_.Go.OpenSpec.ofChange s with cond := some uptoSmall }

/-- 'haywardlaw18.BaptizeRuns', WHERE WHAT IT READS IS OF BULK AT MOST 1048576: true; the input reads as it did. -/
def baptizeRunsUptoRow : OpenClaim := { program := "ytgikjbfpckjkoaa", sum := "24260e0429a36434f085cb9bdf90349ff742b00f1ec7a7f910c15a6c75a5321c", func := "hayward/haywardlaw18.BaptizeRuns", spec := "baptizeRuns", unfollowed := true, recurses := true, apart := false, narrowed := true }
def BaptizeRunsUptoSaid : Prop := baptizeRunsUptoRow.holds Try.pinned (OpenSpec.upto baptizeRunsSpec)

/-- 'haywardlaw21.ReqPuts', WHERE WHAT IT READS IS OF BULK AT MOST 1048576: true; the input reads as it did. -/
def reqPutsUptoRow : OpenClaim := { program := "ytgikjbfpckjkoaa", sum := "24260e0429a36434f085cb9bdf90349ff742b00f1ec7a7f910c15a6c75a5321c", func := "hayward/haywardlaw21.ReqPuts", spec := "reqPuts", apart := false, narrowed := true }
def ReqPutsUptoSaid : Prop := reqPutsUptoRow.holds Try.pinned (OpenSpec.upto reqPutsSpec)

/-- 'haywardlaw21.ReqAnswers', WHERE WHAT IT READS IS OF BULK AT MOST 1048576: true; the input reads as it did. -/
def reqAnswersUptoRow : OpenClaim := { program := "ytgikjbfpckjkoaa", sum := "24260e0429a36434f085cb9bdf90349ff742b00f1ec7a7f910c15a6c75a5321c", func := "hayward/haywardlaw21.ReqAnswers", spec := "reqAnswers", apart := false, narrowed := true }
def ReqAnswersUptoSaid : Prop := reqAnswersUptoRow.holds Try.pinned (OpenSpec.upto reqAnswersSpec)

/-- 'haywardlaw21.ReqRound', WHERE WHAT IT READS IS OF BULK AT MOST 1048576: true; the input reads as it did. -/
def reqRoundUptoRow : OpenClaim := { program := "ytgikjbfpckjkoaa", sum := "24260e0429a36434f085cb9bdf90349ff742b00f1ec7a7f910c15a6c75a5321c", func := "hayward/haywardlaw21.ReqRound", spec := "reqRound", apart := false, narrowed := true }
def ReqRoundUptoSaid : Prop := reqRoundUptoRow.holds Try.pinned (OpenSpec.upto reqRoundSpec)

/-- 'haywardlaw18.BaptizeSafe', WHERE WHAT IT READS IS OF BULK AT MOST 1048576: true; the input reads as it did. -/
def baptizeSafeUptoRow : OpenClaim := { program := "ytgikjbfpckjkoaa", sum := "24260e0429a36434f085cb9bdf90349ff742b00f1ec7a7f910c15a6c75a5321c", func := "hayward/haywardlaw18.BaptizeSafe", spec := "baptizeSafe", unfollowed := true, recurses := true, apart := false, narrowed := true }
def BaptizeSafeUptoSaid : Prop := baptizeSafeUptoRow.holds Try.pinned (OpenSpec.upto baptizeSafeSpec)

/-- 'haywardlaw12.CheckTables', WHERE WHAT IT READS IS OF BULK AT MOST 1048576: true; the input reads as it did. -/
def checkTablesUptoRow : OpenClaim := { program := "ytgikjbfpckjkoaa", sum := "24260e0429a36434f085cb9bdf90349ff742b00f1ec7a7f910c15a6c75a5321c", func := "hayward/haywardlaw12.CheckTables", spec := "checkTables", unfollowed := true, recurses := true, apart := false, narrowed := true }
def CheckTablesUptoSaid : Prop := checkTablesUptoRow.holds Try.pinned (OpenSpec.upto checkTablesSpec)

/-- 'haywardlaw12.CheckAlone', WHERE WHAT IT READS IS OF BULK AT MOST 1048576: true; the input reads as it did. -/
def checkAloneUptoRow : OpenClaim := { program := "ytgikjbfpckjkoaa", sum := "24260e0429a36434f085cb9bdf90349ff742b00f1ec7a7f910c15a6c75a5321c", func := "hayward/haywardlaw12.CheckAlone", spec := "checkAlone", unfollowed := true, recurses := true, apart := false, narrowed := true }
def CheckAloneUptoSaid : Prop := checkAloneUptoRow.holds Try.pinned (OpenSpec.upto checkAloneSpec)

/-- 'haywardlaw02.WireJoins', WHERE WHAT IT READS IS OF BULK AT MOST 1048576: true; the input reads as it did. -/
def wireJoinsUptoRow : OpenClaim := { program := "ytgikjbfpckjkoaa", sum := "24260e0429a36434f085cb9bdf90349ff742b00f1ec7a7f910c15a6c75a5321c", func := "hayward/haywardlaw02.WireJoins", spec := "wireJoins", unfollowed := true, recurses := true, apart := false, narrowed := true }
def WireJoinsUptoSaid : Prop := wireJoinsUptoRow.holds Try.pinned (OpenSpec.upto wireJoinsSpec)

/-- 'haywardlaw02.WireFalls', WHERE WHAT IT READS IS OF BULK AT MOST 1048576: true; the input reads as it did. -/
def wireFallsUptoRow : OpenClaim := { program := "ytgikjbfpckjkoaa", sum := "24260e0429a36434f085cb9bdf90349ff742b00f1ec7a7f910c15a6c75a5321c", func := "hayward/haywardlaw02.WireFalls", spec := "wireFalls", unfollowed := true, recurses := true, apart := false, narrowed := true }
def WireFallsUptoSaid : Prop := wireFallsUptoRow.holds Try.pinned (OpenSpec.upto wireFallsSpec)

/-- 'haywardlaw02.WirePulls', WHERE WHAT IT READS IS OF BULK AT MOST 1048576: true; the input reads as it did. -/
def wirePullsUptoRow : OpenClaim := { program := "ytgikjbfpckjkoaa", sum := "24260e0429a36434f085cb9bdf90349ff742b00f1ec7a7f910c15a6c75a5321c", func := "hayward/haywardlaw02.WirePulls", spec := "wirePulls", unfollowed := true, recurses := true, apart := false, narrowed := true }
def WirePullsUptoSaid : Prop := wirePullsUptoRow.holds Try.pinned (OpenSpec.upto wirePullsSpec)

/-- 'haywardlaw04.SendSpans', WHERE WHAT IT READS IS OF BULK AT MOST 1048576: true; the input reads as it did. -/
def sendSpansUptoRow : OpenClaim := { program := "ytgikjbfpckjkoaa", sum := "24260e0429a36434f085cb9bdf90349ff742b00f1ec7a7f910c15a6c75a5321c", func := "hayward/haywardlaw04.SendSpans", spec := "sendSpans", unfollowed := true, recurses := true, apart := false, narrowed := true }
def SendSpansUptoSaid : Prop := sendSpansUptoRow.holds Try.pinned (OpenSpec.upto sendSpansSpec)

/-- 'haywardlaw04.SendOwn', WHERE WHAT IT READS IS OF BULK AT MOST 1048576: true; the input reads as it did. -/
def sendOwnUptoRow : OpenClaim := { program := "ytgikjbfpckjkoaa", sum := "24260e0429a36434f085cb9bdf90349ff742b00f1ec7a7f910c15a6c75a5321c", func := "hayward/haywardlaw04.SendOwn", spec := "sendOwn", unfollowed := true, recurses := true, apart := false, narrowed := true }
def SendOwnUptoSaid : Prop := sendOwnUptoRow.holds Try.pinned (OpenSpec.upto sendOwnSpec)

end Rows
end Go.Proofs.Ytgikjbfpckjkoaa
