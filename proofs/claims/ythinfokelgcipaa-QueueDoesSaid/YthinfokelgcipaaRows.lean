/-
  No cell of these rows narrows 'for every input' (looked for: loops, veiled, ifaces, maps, wideKeys, modest, calm, conditions, laid).
  DERIVED. THE GIVEN ROWS OF THIS SEAT. 12 by the template 'for every input the law returns true; each argument reads behind the call as it read before'; 0 by the template 'total and deterministic' (their statements: YthinfokelgcipaaTotals.lean).
  GIVEN WITH THE SEED: the statements are not yours to turn. If you find one false, say at which input.
  Laid BY PROGRAM, IN A SANDBOX (cutbox-rows.mjs): the forced cells as the released guide's own fill.sh prints them over the translation a59deda7e2522de6… (all of the seat's roots in one cut). By AI agents, Wed Nov 11 2026. No macro, syntax, notation, axiom, sorry.
-/
import Derived.Test.YthinfokelgcipaaChecked
import GoSem.Claim
import GoSem.ClaimJoined
import GoSem.ClaimMapViews
import Derived.JoinedTies
import Derived.KernelRfl
namespace Go.Proofs.Ythinfokelgcipaa
/- THE CELL 'sum', in the pinned program and in every row, IS THE sha256 OF THE DUMP (.gsa) THAT YthinfokelgcipaaProg.lean LOADS. Nothing in Lean hashes anything: it is a label: what it is worth is what the hold of that sum in a sandbox is worth. -/
noncomputable def Try.pinned : Pinned := { name := "ythinfokelgcipaa", sum := "a59deda7e2522de697eca01e867bbbc94cf697e3b34198528d339c375b55e819", checked := Try.checked }
namespace Rows
def none {H : Type} : Left H := { results := [], args := [] }

/-- 'haywardlaw08.AddrPuts': WHATEVER THE INPUT: true; the input reads as it did. -/
def addrPutsSpec : ChangeSpec := { name := "addrPuts", fn := fun _ => fun
  | [d1, d2] => { results := [.lit (.bool true)], args := [d1, d2] }
  | _ => none }
def addrPutsRow : OpenClaim := { program := "ythinfokelgcipaa", sum := "a59deda7e2522de697eca01e867bbbc94cf697e3b34198528d339c375b55e819", func := "hayward/haywardlaw08.AddrPuts", spec := "addrPuts", apart := false }
def AddrPutsSaid : Prop := addrPutsRow.holds Try.pinned (OpenSpec.ofChange addrPutsSpec)

/-- ITS FALSE NEIGHBOUR: 'it returns false'. Refute it at one input. -/
def addrPutsWrong : ChangeSpec := { name := "addrPuts", fn := fun _ => fun
  | [d1, d2] => { results := [.lit (.bool false)], args := [d1, d2] }
  | _ => none }
def AddrPutsWrongFalsely : Prop := addrPutsRow.holds Try.pinned (OpenSpec.ofChange addrPutsWrong)

/-- 'haywardlaw08.AddrRound': WHATEVER THE INPUT: true; the input reads as it did. -/
def addrRoundSpec : ChangeSpec := { name := "addrRound", fn := fun _ => fun
  | [d1, d2] => { results := [.lit (.bool true)], args := [d1, d2] }
  | _ => none }
def addrRoundRow : OpenClaim := { program := "ythinfokelgcipaa", sum := "a59deda7e2522de697eca01e867bbbc94cf697e3b34198528d339c375b55e819", func := "hayward/haywardlaw08.AddrRound", spec := "addrRound", apart := false }
def AddrRoundSaid : Prop := addrRoundRow.holds Try.pinned (OpenSpec.ofChange addrRoundSpec)

/-- ITS FALSE NEIGHBOUR: 'it returns false'. Refute it at one input. -/
def addrRoundWrong : ChangeSpec := { name := "addrRound", fn := fun _ => fun
  | [d1, d2] => { results := [.lit (.bool false)], args := [d1, d2] }
  | _ => none }
def AddrRoundWrongFalsely : Prop := addrRoundRow.holds Try.pinned (OpenSpec.ofChange addrRoundWrong)

/-- 'haywardlaw03.UartFrames': WHATEVER THE INPUT: true; the input reads as it did. -/
def uartFramesSpec : ChangeSpec := { name := "uartFrames", fn := fun _ => fun
  | [d1, d2, d3, d4] => { results := [.lit (.bool true)], args := [d1, d2, d3, d4] }
  | _ => none }
def uartFramesRow : OpenClaim := { program := "ythinfokelgcipaa", sum := "a59deda7e2522de697eca01e867bbbc94cf697e3b34198528d339c375b55e819", func := "hayward/haywardlaw03.UartFrames", spec := "uartFrames", apart := false }
def UartFramesSaid : Prop := uartFramesRow.holds Try.pinned (OpenSpec.ofChange uartFramesSpec)

/-- ITS FALSE NEIGHBOUR: 'it returns false'. Refute it at one input. -/
def uartFramesWrong : ChangeSpec := { name := "uartFrames", fn := fun _ => fun
  | [d1, d2, d3, d4] => { results := [.lit (.bool false)], args := [d1, d2, d3, d4] }
  | _ => none }
def UartFramesWrongFalsely : Prop := uartFramesRow.holds Try.pinned (OpenSpec.ofChange uartFramesWrong)

/-- 'haywardlaw03.UartRound': WHATEVER THE INPUT: true; the input reads as it did. -/
def uartRoundSpec : ChangeSpec := { name := "uartRound", fn := fun _ => fun
  | [d1, d2, d3] => { results := [.lit (.bool true)], args := [d1, d2, d3] }
  | _ => none }
def uartRoundRow : OpenClaim := { program := "ythinfokelgcipaa", sum := "a59deda7e2522de697eca01e867bbbc94cf697e3b34198528d339c375b55e819", func := "hayward/haywardlaw03.UartRound", spec := "uartRound", apart := false }
def UartRoundSaid : Prop := uartRoundRow.holds Try.pinned (OpenSpec.ofChange uartRoundSpec)

/-- ITS FALSE NEIGHBOUR: 'it returns false'. Refute it at one input. -/
def uartRoundWrong : ChangeSpec := { name := "uartRound", fn := fun _ => fun
  | [d1, d2, d3] => { results := [.lit (.bool false)], args := [d1, d2, d3] }
  | _ => none }
def UartRoundWrongFalsely : Prop := uartRoundRow.holds Try.pinned (OpenSpec.ofChange uartRoundWrong)

/-- 'haywardlaw06.FireCodes': WHATEVER THE INPUT: true; the input reads as it did. -/
def fireCodesSpec : ChangeSpec := { name := "fireCodes", fn := fun _ => fun
  | [d1, d2, d3, d4, d5] => { results := [.lit (.bool true)], args := [d1, d2, d3, d4, d5] }
  | _ => none }
def fireCodesRow : OpenClaim := { program := "ythinfokelgcipaa", sum := "a59deda7e2522de697eca01e867bbbc94cf697e3b34198528d339c375b55e819", func := "hayward/haywardlaw06.FireCodes", spec := "fireCodes", apart := false }
def FireCodesSaid : Prop := fireCodesRow.holds Try.pinned (OpenSpec.ofChange fireCodesSpec)

/-- ITS FALSE NEIGHBOUR: 'it returns false'. Refute it at one input. -/
def fireCodesWrong : ChangeSpec := { name := "fireCodes", fn := fun _ => fun
  | [d1, d2, d3, d4, d5] => { results := [.lit (.bool false)], args := [d1, d2, d3, d4, d5] }
  | _ => none }
def FireCodesWrongFalsely : Prop := fireCodesRow.holds Try.pinned (OpenSpec.ofChange fireCodesWrong)

/-- 'haywardlaw22.QueueDoes': WHATEVER THE INPUT: true; the input reads as it did. -/
def queueDoesSpec : ChangeSpec := { name := "queueDoes", fn := fun _ => fun
  | [d] => { results := [.lit (.bool true)], args := [d] }
  | _ => none }
def queueDoesRow : OpenClaim := { program := "ythinfokelgcipaa", sum := "a59deda7e2522de697eca01e867bbbc94cf697e3b34198528d339c375b55e819", func := "hayward/haywardlaw22.QueueDoes", spec := "queueDoes", apart := false }
def QueueDoesSaid : Prop := queueDoesRow.holds Try.pinned (OpenSpec.ofChange queueDoesSpec)

/-- ITS FALSE NEIGHBOUR: 'it returns false'. Refute it at one input. -/
def queueDoesWrong : ChangeSpec := { name := "queueDoes", fn := fun _ => fun
  | [d] => { results := [.lit (.bool false)], args := [d] }
  | _ => none }
def QueueDoesWrongFalsely : Prop := queueDoesRow.holds Try.pinned (OpenSpec.ofChange queueDoesWrong)

/-- 'haywardlaw22.QueueOrder': WHATEVER THE INPUT: true; the input reads as it did. -/
def queueOrderSpec : ChangeSpec := { name := "queueOrder", fn := fun _ => fun
  | [d] => { results := [.lit (.bool true)], args := [d] }
  | _ => none }
def queueOrderRow : OpenClaim := { program := "ythinfokelgcipaa", sum := "a59deda7e2522de697eca01e867bbbc94cf697e3b34198528d339c375b55e819", func := "hayward/haywardlaw22.QueueOrder", spec := "queueOrder", apart := false }
def QueueOrderSaid : Prop := queueOrderRow.holds Try.pinned (OpenSpec.ofChange queueOrderSpec)

/-- ITS FALSE NEIGHBOUR: 'it returns false'. Refute it at one input. -/
def queueOrderWrong : ChangeSpec := { name := "queueOrder", fn := fun _ => fun
  | [d] => { results := [.lit (.bool false)], args := [d] }
  | _ => none }
def QueueOrderWrongFalsely : Prop := queueOrderRow.holds Try.pinned (OpenSpec.ofChange queueOrderWrong)

/-- 'haywardlaw01.TickCounts': WHATEVER THE INPUT: true; the input reads as it did. -/
def tickCountsSpec : ChangeSpec := { name := "tickCounts", fn := fun _ => fun
  | [d1, d2, d3] => { results := [.lit (.bool true)], args := [d1, d2, d3] }
  | _ => none }
def tickCountsRow : OpenClaim := { program := "ythinfokelgcipaa", sum := "a59deda7e2522de697eca01e867bbbc94cf697e3b34198528d339c375b55e819", func := "hayward/haywardlaw01.TickCounts", spec := "tickCounts", unfollowed := true, recurses := true, apart := false }
def TickCountsSaid : Prop := tickCountsRow.holds Try.pinned (OpenSpec.ofChange tickCountsSpec)

/-- ITS FALSE NEIGHBOUR: 'it returns false'. Refute it at one input. -/
def tickCountsWrong : ChangeSpec := { name := "tickCounts", fn := fun _ => fun
  | [d1, d2, d3] => { results := [.lit (.bool false)], args := [d1, d2, d3] }
  | _ => none }
def TickCountsWrongFalsely : Prop := tickCountsRow.holds Try.pinned (OpenSpec.ofChange tickCountsWrong)

/-- 'haywardlaw01.TickRound': WHATEVER THE INPUT: true; the input reads as it did. -/
def tickRoundSpec : ChangeSpec := { name := "tickRound", fn := fun _ => fun
  | [d1, d2, d3] => { results := [.lit (.bool true)], args := [d1, d2, d3] }
  | _ => none }
def tickRoundRow : OpenClaim := { program := "ythinfokelgcipaa", sum := "a59deda7e2522de697eca01e867bbbc94cf697e3b34198528d339c375b55e819", func := "hayward/haywardlaw01.TickRound", spec := "tickRound", unfollowed := true, recurses := true, apart := false }
def TickRoundSaid : Prop := tickRoundRow.holds Try.pinned (OpenSpec.ofChange tickRoundSpec)

/-- ITS FALSE NEIGHBOUR: 'it returns false'. Refute it at one input. -/
def tickRoundWrong : ChangeSpec := { name := "tickRound", fn := fun _ => fun
  | [d1, d2, d3] => { results := [.lit (.bool false)], args := [d1, d2, d3] }
  | _ => none }
def TickRoundWrongFalsely : Prop := tickRoundRow.holds Try.pinned (OpenSpec.ofChange tickRoundWrong)

/-- 'haywardlaw06.FireSafe': WHATEVER THE INPUT: true; the input reads as it did. -/
def fireSafeSpec : ChangeSpec := { name := "fireSafe", fn := fun _ => fun
  | [d1, d2] => { results := [.lit (.bool true)], args := [d1, d2] }
  | _ => none }
def fireSafeRow : OpenClaim := { program := "ythinfokelgcipaa", sum := "a59deda7e2522de697eca01e867bbbc94cf697e3b34198528d339c375b55e819", func := "hayward/haywardlaw06.FireSafe", spec := "fireSafe", apart := false }
def FireSafeSaid : Prop := fireSafeRow.holds Try.pinned (OpenSpec.ofChange fireSafeSpec)

/-- ITS FALSE NEIGHBOUR: 'it returns false'. Refute it at one input. -/
def fireSafeWrong : ChangeSpec := { name := "fireSafe", fn := fun _ => fun
  | [d1, d2] => { results := [.lit (.bool false)], args := [d1, d2] }
  | _ => none }
def FireSafeWrongFalsely : Prop := fireSafeRow.holds Try.pinned (OpenSpec.ofChange fireSafeWrong)

/-- 'haywardlaw17.NameAssigns': WHATEVER THE INPUT: true; the input reads as it did. -/
def nameAssignsSpec : ChangeSpec := { name := "nameAssigns", fn := fun _ => fun
  | [d1, d2] => { results := [.lit (.bool true)], args := [d1, d2] }
  | _ => none }
def nameAssignsRow : OpenClaim := { program := "ythinfokelgcipaa", sum := "a59deda7e2522de697eca01e867bbbc94cf697e3b34198528d339c375b55e819", func := "hayward/haywardlaw17.NameAssigns", spec := "nameAssigns", unfollowed := true, recurses := true, apart := false }
def NameAssignsSaid : Prop := nameAssignsRow.holds Try.pinned (OpenSpec.ofChange nameAssignsSpec)

/-- ITS FALSE NEIGHBOUR: 'it returns false'. Refute it at one input. -/
def nameAssignsWrong : ChangeSpec := { name := "nameAssigns", fn := fun _ => fun
  | [d1, d2] => { results := [.lit (.bool false)], args := [d1, d2] }
  | _ => none }
def NameAssignsWrongFalsely : Prop := nameAssignsRow.holds Try.pinned (OpenSpec.ofChange nameAssignsWrong)

/-- 'haywardlaw17.NameKeeps': WHATEVER THE INPUT: true; the input reads as it did. -/
def nameKeepsSpec : ChangeSpec := { name := "nameKeeps", fn := fun _ => fun
  | [d1, d2] => { results := [.lit (.bool true)], args := [d1, d2] }
  | _ => none }
def nameKeepsRow : OpenClaim := { program := "ythinfokelgcipaa", sum := "a59deda7e2522de697eca01e867bbbc94cf697e3b34198528d339c375b55e819", func := "hayward/haywardlaw17.NameKeeps", spec := "nameKeeps", unfollowed := true, recurses := true, apart := false }
def NameKeepsSaid : Prop := nameKeepsRow.holds Try.pinned (OpenSpec.ofChange nameKeepsSpec)

/-- ITS FALSE NEIGHBOUR: 'it returns false'. Refute it at one input. -/
def nameKeepsWrong : ChangeSpec := { name := "nameKeeps", fn := fun _ => fun
  | [d1, d2] => { results := [.lit (.bool false)], args := [d1, d2] }
  | _ => none }
def NameKeepsWrongFalsely : Prop := nameKeepsRow.holds Try.pinned (OpenSpec.ofChange nameKeepsWrong)

/- THE SECOND FORM. 'bulk': how many values and letters a reading holds, each counted each time it is reached (what is shared counts as often as it is met; a slice's spare places count too). A statement '..UptoSaid' is the law's where the arguments, and the package variables that the reading takes, are together of bulk at most 1048576: NARROWER than '..Said'. Prove '..Said' where nothing that the law and all that it calls make is longer than what came in: it says more and counts as full. Else prove '..UptoSaid'. A law counts once. -/
mutual
def uptoBulk {H : Type} : DataW H → Nat
  | .lit (.string bytes) => bytes.length + 1
  | .lit _ => 1
  | .nil => 1
  | .ptr d => uptoBulk d + 1
  | .slice elems spare => uptoBulkAll elems + uptoBulkAll spare + 1
  | .agg parts => uptoBulkAll parts + 1
  | .iface _ d => uptoBulk d + 1
  | .map entries => uptoBulkEntries entries + 1
  | .held _ => 1
def uptoBulkAll {H : Type} : List (DataW H) → Nat
  | [] => 0
  | d :: r => uptoBulk d + uptoBulkAll r
def uptoBulkEntries {H : Type} : List (Lit × DataW H) → Nat
  | [] => 0
  | x :: r => uptoBulkEntry x + uptoBulkEntries r
def uptoBulkEntry {H : Type} : Lit × DataW H → Nat
  | (.string bytes, d) => bytes.length + uptoBulk d + 1
  | (_, d) => uptoBulk d + 1
 end
def uptoSmall : (H : Type) → List (DataW H) → Bool := fun _ ds => decide (uptoBulkAll ds ≤ 1048576)
def OpenSpec.upto (s : _root_.Go.ChangeSpec) : _root_.Go.OpenSpec := { _root_.Go.OpenSpec.ofChange s with cond := some uptoSmall }

/-- 'haywardlaw08.AddrPuts', WHERE WHAT IT READS IS OF BULK AT MOST 1048576: true; the input reads as it did. -/
def addrPutsUptoRow : OpenClaim := { program := "ythinfokelgcipaa", sum := "a59deda7e2522de697eca01e867bbbc94cf697e3b34198528d339c375b55e819", func := "hayward/haywardlaw08.AddrPuts", spec := "addrPuts", apart := false, narrowed := true }
def AddrPutsUptoSaid : Prop := addrPutsUptoRow.holds Try.pinned (OpenSpec.upto addrPutsSpec)

/-- 'haywardlaw08.AddrRound', WHERE WHAT IT READS IS OF BULK AT MOST 1048576: true; the input reads as it did. -/
def addrRoundUptoRow : OpenClaim := { program := "ythinfokelgcipaa", sum := "a59deda7e2522de697eca01e867bbbc94cf697e3b34198528d339c375b55e819", func := "hayward/haywardlaw08.AddrRound", spec := "addrRound", apart := false, narrowed := true }
def AddrRoundUptoSaid : Prop := addrRoundUptoRow.holds Try.pinned (OpenSpec.upto addrRoundSpec)

/-- 'haywardlaw03.UartFrames', WHERE WHAT IT READS IS OF BULK AT MOST 1048576: true; the input reads as it did. -/
def uartFramesUptoRow : OpenClaim := { program := "ythinfokelgcipaa", sum := "a59deda7e2522de697eca01e867bbbc94cf697e3b34198528d339c375b55e819", func := "hayward/haywardlaw03.UartFrames", spec := "uartFrames", apart := false, narrowed := true }
def UartFramesUptoSaid : Prop := uartFramesUptoRow.holds Try.pinned (OpenSpec.upto uartFramesSpec)

/-- 'haywardlaw03.UartRound', WHERE WHAT IT READS IS OF BULK AT MOST 1048576: true; the input reads as it did. -/
def uartRoundUptoRow : OpenClaim := { program := "ythinfokelgcipaa", sum := "a59deda7e2522de697eca01e867bbbc94cf697e3b34198528d339c375b55e819", func := "hayward/haywardlaw03.UartRound", spec := "uartRound", apart := false, narrowed := true }
def UartRoundUptoSaid : Prop := uartRoundUptoRow.holds Try.pinned (OpenSpec.upto uartRoundSpec)

/-- 'haywardlaw06.FireCodes', WHERE WHAT IT READS IS OF BULK AT MOST 1048576: true; the input reads as it did. -/
def fireCodesUptoRow : OpenClaim := { program := "ythinfokelgcipaa", sum := "a59deda7e2522de697eca01e867bbbc94cf697e3b34198528d339c375b55e819", func := "hayward/haywardlaw06.FireCodes", spec := "fireCodes", apart := false, narrowed := true }
def FireCodesUptoSaid : Prop := fireCodesUptoRow.holds Try.pinned (OpenSpec.upto fireCodesSpec)

/-- 'haywardlaw22.QueueDoes', WHERE WHAT IT READS IS OF BULK AT MOST 1048576: true; the input reads as it did. -/
def queueDoesUptoRow : OpenClaim := { program := "ythinfokelgcipaa", sum := "a59deda7e2522de697eca01e867bbbc94cf697e3b34198528d339c375b55e819", func := "hayward/haywardlaw22.QueueDoes", spec := "queueDoes", apart := false, narrowed := true }
def QueueDoesUptoSaid : Prop := queueDoesUptoRow.holds Try.pinned (OpenSpec.upto queueDoesSpec)

/-- 'haywardlaw22.QueueOrder', WHERE WHAT IT READS IS OF BULK AT MOST 1048576: true; the input reads as it did. -/
def queueOrderUptoRow : OpenClaim := { program := "ythinfokelgcipaa", sum := "a59deda7e2522de697eca01e867bbbc94cf697e3b34198528d339c375b55e819", func := "hayward/haywardlaw22.QueueOrder", spec := "queueOrder", apart := false, narrowed := true }
def QueueOrderUptoSaid : Prop := queueOrderUptoRow.holds Try.pinned (OpenSpec.upto queueOrderSpec)

/-- 'haywardlaw01.TickCounts', WHERE WHAT IT READS IS OF BULK AT MOST 1048576: true; the input reads as it did. -/
def tickCountsUptoRow : OpenClaim := { program := "ythinfokelgcipaa", sum := "a59deda7e2522de697eca01e867bbbc94cf697e3b34198528d339c375b55e819", func := "hayward/haywardlaw01.TickCounts", spec := "tickCounts", unfollowed := true, recurses := true, apart := false, narrowed := true }
def TickCountsUptoSaid : Prop := tickCountsUptoRow.holds Try.pinned (OpenSpec.upto tickCountsSpec)

/-- 'haywardlaw01.TickRound', WHERE WHAT IT READS IS OF BULK AT MOST 1048576: true; the input reads as it did. -/
def tickRoundUptoRow : OpenClaim := { program := "ythinfokelgcipaa", sum := "a59deda7e2522de697eca01e867bbbc94cf697e3b34198528d339c375b55e819", func := "hayward/haywardlaw01.TickRound", spec := "tickRound", unfollowed := true, recurses := true, apart := false, narrowed := true }
def TickRoundUptoSaid : Prop := tickRoundUptoRow.holds Try.pinned (OpenSpec.upto tickRoundSpec)

/-- 'haywardlaw06.FireSafe', WHERE WHAT IT READS IS OF BULK AT MOST 1048576: true; the input reads as it did. -/
def fireSafeUptoRow : OpenClaim := { program := "ythinfokelgcipaa", sum := "a59deda7e2522de697eca01e867bbbc94cf697e3b34198528d339c375b55e819", func := "hayward/haywardlaw06.FireSafe", spec := "fireSafe", apart := false, narrowed := true }
def FireSafeUptoSaid : Prop := fireSafeUptoRow.holds Try.pinned (OpenSpec.upto fireSafeSpec)

/-- 'haywardlaw17.NameAssigns', WHERE WHAT IT READS IS OF BULK AT MOST 1048576: true; the input reads as it did. -/
def nameAssignsUptoRow : OpenClaim := { program := "ythinfokelgcipaa", sum := "a59deda7e2522de697eca01e867bbbc94cf697e3b34198528d339c375b55e819", func := "hayward/haywardlaw17.NameAssigns", spec := "nameAssigns", unfollowed := true, recurses := true, apart := false, narrowed := true }
def NameAssignsUptoSaid : Prop := nameAssignsUptoRow.holds Try.pinned (OpenSpec.upto nameAssignsSpec)

/-- 'haywardlaw17.NameKeeps', WHERE WHAT IT READS IS OF BULK AT MOST 1048576: true; the input reads as it did. -/
def nameKeepsUptoRow : OpenClaim := { program := "ythinfokelgcipaa", sum := "a59deda7e2522de697eca01e867bbbc94cf697e3b34198528d339c375b55e819", func := "hayward/haywardlaw17.NameKeeps", spec := "nameKeeps", unfollowed := true, recurses := true, apart := false, narrowed := true }
def NameKeepsUptoSaid : Prop := nameKeepsUptoRow.holds Try.pinned (OpenSpec.upto nameKeepsSpec)

end Rows
end Go.Proofs.Ythinfokelgcipaa
