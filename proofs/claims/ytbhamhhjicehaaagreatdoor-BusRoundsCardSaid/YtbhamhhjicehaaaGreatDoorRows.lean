/-
  NARROWER THAN 'FOR EVERY INPUT', by the rows' own cells (each row's printed sentence says how): BusApart: laid · BusRounds: laid · BusTrue: laid.
  DERIVED. THE GIVEN ROWS OF THIS SEAT. 3 by the template 'for every input the law returns true; each argument reads behind the call as it read before'; 0 by the template 'total and deterministic' (their statements: YtbhamhhjicehaaaGreatDoorTotals.lean).
  GIVEN WITH THE SEED: the statements are not yours to turn. If you find one false, say at which input.
  Laid BY PROGRAM, IN A SANDBOX (cutbox-rows.mjs): the forced cells as the released guide's own fill.sh prints them over the translation 976d9303ce67b599… (all of the seat's roots in one cut). By AI agents, Wed Nov 11 2026. No macro, syntax, notation, axiom, sorry.
-/
import Derived.Test.YtbhamhhjicehaaaGreatDoorChecked
import GoSem.Claim
import GoSem.ClaimJoined
import GoSem.ClaimMapViews
import Derived.JoinedTies
import Derived.KernelRfl
namespace Go.Proofs.YtbhamhhjicehaaaGreatDoor
/- THE CELL 'sum', in the pinned program and in every row, IS THE sha256 OF THE DUMP (.gsa) THAT YtbhamhhjicehaaaGreatDoorProg.lean LOADS. Nothing in Lean hashes anything: it is a label: what it is worth is what the hold of that sum in a sandbox is worth. -/
noncomputable def Tryz.pinned : Pinned := { name := "ytbhamhhjicehaaagreatdoor", sum := "976d9303ce67b599dd321104b8b945b08f7c5ddd2ac8874b1e9b7e11846c29c3", checked := Tryz.checked }
namespace Rows
def none {H : Type} : Left H := { results := [], args := [] }

/- WHAT THE LISTED PACKAGE-LEVEL VARIABLES READ AS WHEN THE CALL BEGINS. Each datum BY PROGRAM (the guide's laid-datum.mjs) off the statement by which the dump's own 'gosem.cut.vars' lays the variable. In a bare row this is a premise. The card (YtbhamhhjicehaaaGreatDoorCards.lean) ties it to the program's text. -/
def laid_errors_errorType {H : Type} : DataW H := .iface "internal/reflectlite.rtype" (.agg [.ptr (.lit (.string [101, 114, 114, 111, 114]))])

/-- 'haywardlaw15.BusApart': WHATEVER THE INPUT: true; the input reads as it did. -/
def busApartSpec : ChangeSpec := { name := "busApart", fn := fun _ => fun
  | [d1, d2, d3] => { results := [.lit (.bool true)], args := [d1, d2, d3] }
  | _ => none }
def busApartRow : OpenClaim := { program := "ytbhamhhjicehaaagreatdoor", sum := "976d9303ce67b599dd321104b8b945b08f7c5ddd2ac8874b1e9b7e11846c29c3", func := "hayward/haywardlaw15.BusApart", spec := "busApart", inPlace := ["internal/reflectlite.TypeOf", "internal/reflectlite.ValueOf", "(internal/reflectlite.Value).Type", "(internal/reflectlite.Value).IsNil", "(internal/reflectlite.Value).Elem", "(internal/reflectlite.Value).Set"], unfollowed := true, recurses := true, named := ["errors.errorType"], plainKeys := false, apart := false, laid := [("errors.errorType", laid_errors_errorType)] }
def BusApartSaid : Prop := busApartRow.holds Tryz.pinned (OpenSpec.ofChange busApartSpec)

/-- ITS FALSE NEIGHBOUR: 'it returns false'. Refute it at one input. -/
def busApartWrong : ChangeSpec := { name := "busApart", fn := fun _ => fun
  | [d1, d2, d3] => { results := [.lit (.bool false)], args := [d1, d2, d3] }
  | _ => none }
def BusApartWrongFalsely : Prop := busApartRow.holds Tryz.pinned (OpenSpec.ofChange busApartWrong)

/-- 'haywardlaw15.BusRounds': WHATEVER THE INPUT: true; the input reads as it did. -/
def busRoundsSpec : ChangeSpec := { name := "busRounds", fn := fun _ => fun
  | [d1, d2] => { results := [.lit (.bool true)], args := [d1, d2] }
  | _ => none }
def busRoundsRow : OpenClaim := { program := "ytbhamhhjicehaaagreatdoor", sum := "976d9303ce67b599dd321104b8b945b08f7c5ddd2ac8874b1e9b7e11846c29c3", func := "hayward/haywardlaw15.BusRounds", spec := "busRounds", inPlace := ["internal/reflectlite.TypeOf", "internal/reflectlite.ValueOf", "(internal/reflectlite.Value).Type", "(internal/reflectlite.Value).IsNil", "(internal/reflectlite.Value).Elem", "(internal/reflectlite.Value).Set"], unfollowed := true, recurses := true, named := ["errors.errorType"], plainKeys := false, apart := false, laid := [("errors.errorType", laid_errors_errorType)] }
def BusRoundsSaid : Prop := busRoundsRow.holds Tryz.pinned (OpenSpec.ofChange busRoundsSpec)

/-- ITS FALSE NEIGHBOUR: 'it returns false'. Refute it at one input. -/
def busRoundsWrong : ChangeSpec := { name := "busRounds", fn := fun _ => fun
  | [d1, d2] => { results := [.lit (.bool false)], args := [d1, d2] }
  | _ => none }
def BusRoundsWrongFalsely : Prop := busRoundsRow.holds Tryz.pinned (OpenSpec.ofChange busRoundsWrong)

/-- 'haywardlaw15.BusTrue': WHATEVER THE INPUT: true; the input reads as it did. -/
def busTrueSpec : ChangeSpec := { name := "busTrue", fn := fun _ => fun
  | [d1, d2] => { results := [.lit (.bool true)], args := [d1, d2] }
  | _ => none }
def busTrueRow : OpenClaim := { program := "ytbhamhhjicehaaagreatdoor", sum := "976d9303ce67b599dd321104b8b945b08f7c5ddd2ac8874b1e9b7e11846c29c3", func := "hayward/haywardlaw15.BusTrue", spec := "busTrue", inPlace := ["internal/reflectlite.TypeOf", "internal/reflectlite.ValueOf", "(internal/reflectlite.Value).Type", "(internal/reflectlite.Value).IsNil", "(internal/reflectlite.Value).Elem", "(internal/reflectlite.Value).Set"], unfollowed := true, recurses := true, named := ["errors.errorType"], plainKeys := false, apart := false, laid := [("errors.errorType", laid_errors_errorType)] }
def BusTrueSaid : Prop := busTrueRow.holds Tryz.pinned (OpenSpec.ofChange busTrueSpec)

/-- ITS FALSE NEIGHBOUR: 'it returns false'. Refute it at one input. -/
def busTrueWrong : ChangeSpec := { name := "busTrue", fn := fun _ => fun
  | [d1, d2] => { results := [.lit (.bool false)], args := [d1, d2] }
  | _ => none }
def BusTrueWrongFalsely : Prop := busTrueRow.holds Tryz.pinned (OpenSpec.ofChange busTrueWrong)

/- THE SECOND FORM. 'bulk': how many values and letters a reading holds, each counted each time it is reached (what is shared counts as often as it is met; a slice's spare places count too). A statement '..UptoSaid' is the law's where the arguments, and the package variables that the reading takes, are together of bulk at most 1048576: NARROWER than '..Said'. Prove '..Said' where nothing that the law and all that it calls make is longer than what came in: it says more and counts as full. Else prove '..UptoSaid'. A law counts once. -/
mutual
def uptoBulk {H : Type} : DataW H → Nat
  | .lit (.string bytes) => bytes.length + 1
  | .lit _ => 1
  | .nil => 1
  | .ptr d => uptoBulk d + 1
  | .slice elems spare => uptoBulkAll elems + uptoBulkAll spare + 1
  | .agg parts => uptoBulkAll parts + 1
  | .iface _ d => uptoBulk d + 1
  | .map entries => uptoBulkEntries entries + 1
  | .held _ => 1
def uptoBulkAll {H : Type} : List (DataW H) → Nat
  | [] => 0
  | d :: r => uptoBulk d + uptoBulkAll r
def uptoBulkEntries {H : Type} : List (Lit × DataW H) → Nat
  | [] => 0
  | x :: r => uptoBulkEntry x + uptoBulkEntries r
def uptoBulkEntry {H : Type} : Lit × DataW H → Nat
  | (.string bytes, d) => bytes.length + uptoBulk d + 1
  | (_, d) => uptoBulk d + 1
 end
def uptoSmall : (H : Type) → List (DataW H) → Bool := fun _ ds => decide (uptoBulkAll ds ≤ 1048576)
def OpenSpec.upto (s : _root_.Go.ChangeSpec) : _root_.Go.OpenSpec := { _root_.Go.OpenSpec.ofChange s with cond := some uptoSmall }

/-- 'haywardlaw15.BusApart', WHERE WHAT IT READS IS OF BULK AT MOST 1048576: true; the input reads as it did. -/
def busApartUptoRow : OpenClaim := { program := "ytbhamhhjicehaaagreatdoor", sum := "976d9303ce67b599dd321104b8b945b08f7c5ddd2ac8874b1e9b7e11846c29c3", func := "hayward/haywardlaw15.BusApart", spec := "busApart", inPlace := ["internal/reflectlite.TypeOf", "internal/reflectlite.ValueOf", "(internal/reflectlite.Value).Type", "(internal/reflectlite.Value).IsNil", "(internal/reflectlite.Value).Elem", "(internal/reflectlite.Value).Set"], unfollowed := true, recurses := true, named := ["errors.errorType"], plainKeys := false, apart := false, laid := [("errors.errorType", laid_errors_errorType)], narrowed := true }
def BusApartUptoSaid : Prop := busApartUptoRow.holds Tryz.pinned (OpenSpec.upto busApartSpec)

/-- 'haywardlaw15.BusRounds', WHERE WHAT IT READS IS OF BULK AT MOST 1048576: true; the input reads as it did. -/
def busRoundsUptoRow : OpenClaim := { program := "ytbhamhhjicehaaagreatdoor", sum := "976d9303ce67b599dd321104b8b945b08f7c5ddd2ac8874b1e9b7e11846c29c3", func := "hayward/haywardlaw15.BusRounds", spec := "busRounds", inPlace := ["internal/reflectlite.TypeOf", "internal/reflectlite.ValueOf", "(internal/reflectlite.Value).Type", "(internal/reflectlite.Value).IsNil", "(internal/reflectlite.Value).Elem", "(internal/reflectlite.Value).Set"], unfollowed := true, recurses := true, named := ["errors.errorType"], plainKeys := false, apart := false, laid := [("errors.errorType", laid_errors_errorType)], narrowed := true }
def BusRoundsUptoSaid : Prop := busRoundsUptoRow.holds Tryz.pinned (OpenSpec.upto busRoundsSpec)

/-- 'haywardlaw15.BusTrue', WHERE WHAT IT READS IS OF BULK AT MOST 1048576: true; the input reads as it did. -/
def busTrueUptoRow : OpenClaim := { program := "ytbhamhhjicehaaagreatdoor", sum := "976d9303ce67b599dd321104b8b945b08f7c5ddd2ac8874b1e9b7e11846c29c3", func := "hayward/haywardlaw15.BusTrue", spec := "busTrue", inPlace := ["internal/reflectlite.TypeOf", "internal/reflectlite.ValueOf", "(internal/reflectlite.Value).Type", "(internal/reflectlite.Value).IsNil", "(internal/reflectlite.Value).Elem", "(internal/reflectlite.Value).Set"], unfollowed := true, recurses := true, named := ["errors.errorType"], plainKeys := false, apart := false, laid := [("errors.errorType", laid_errors_errorType)], narrowed := true }
def BusTrueUptoSaid : Prop := busTrueUptoRow.holds Tryz.pinned (OpenSpec.upto busTrueSpec)

end Rows
end Go.Proofs.YtbhamhhjicehaaaGreatDoor
