/-
  NARROWER THAN 'FOR EVERY INPUT', by the rows' own cells (each row's printed sentence says how): ServeBytes: laid · ServeTries: laid · PartWhole: laid · PartRounds: laid.
  DERIVED. THE GIVEN ROWS OF THIS SEAT. 4 by the template 'for every input the law returns true; each argument reads behind the call as it read before'; 0 by the template 'total and deterministic' (their statements: YtamlipffhimfmaaGreatDoorTotals.lean).
  GIVEN WITH THE SEED: the statements are not yours to turn. If you find one false, say at which input.
  Laid BY PROGRAM, IN A SANDBOX (cutbox-rows.mjs): the forced cells as the released guide's own fill.sh prints them over the translation c8c209ffef88c24e… (all of the seat's roots in one cut). By AI agents, Wed Nov 11 2026. No macro, syntax, notation, axiom, sorry.
-/
import Derived.Test.YtamlipffhimfmaaGreatDoorChecked
import GoSem.Claim
import GoSem.ClaimJoined
import GoSem.ClaimMapViews
import Derived.JoinedTies
import Derived.KernelRfl
namespace Go.Proofs.YtamlipffhimfmaaGreatDoor
/- THE CELL 'sum', in the pinned program and in every row, IS THE sha256 OF THE DUMP (.gsa) THAT YtamlipffhimfmaaGreatDoorProg.lean LOADS. Nothing in Lean hashes anything: it is a label: what it is worth is what the hold of that sum in a sandbox is worth. -/
noncomputable def Tryz.pinned : Pinned := { name := "ytamlipffhimfmaagreatdoor", sum := "c8c209ffef88c24e821d037cfce1a08b6dd4b5f81ac07c76866bd95fe12f0f4e", checked := Tryz.checked }
namespace Rows
def none {H : Type} : Left H := { results := [], args := [] }

/- WHAT THE LISTED PACKAGE-LEVEL VARIABLES READ AS WHEN THE CALL BEGINS. Each datum BY PROGRAM (the guide's laid-datum.mjs) off the statement by which the dump's own 'gosem.cut.vars' lays the variable. In a bare row this is a premise. The card (YtamlipffhimfmaaGreatDoorCards.lean) ties it to the program's text. -/
def laid_errors_errorType {H : Type} : DataW H := .iface "internal/reflectlite.rtype" (.agg [.ptr (.lit (.string [101, 114, 114, 111, 114]))])

/-- 'haywardlaw16.ServeBytes': WHATEVER THE INPUT: true; the input reads as it did. -/
def serveBytesSpec : ChangeSpec := { name := "serveBytes", fn := fun _ => fun
  | [d1, d2, d3, d4, d5, d6] => { results := [.lit (.bool true)], args := [d1, d2, d3, d4, d5, d6] }
  | _ => none }
def serveBytesRow : OpenClaim := { program := "ytamlipffhimfmaagreatdoor", sum := "c8c209ffef88c24e821d037cfce1a08b6dd4b5f81ac07c76866bd95fe12f0f4e", func := "hayward/haywardlaw16.ServeBytes", spec := "serveBytes", inPlace := ["internal/reflectlite.TypeOf", "internal/reflectlite.ValueOf", "(internal/reflectlite.Value).Type", "(internal/reflectlite.Value).IsNil", "(internal/reflectlite.Value).Elem", "(internal/reflectlite.Value).Set"], unfollowed := true, recurses := true, named := ["errors.errorType"], plainKeys := false, apart := false, laid := [("errors.errorType", laid_errors_errorType)] }
def ServeBytesSaid : Prop := serveBytesRow.holds Tryz.pinned (OpenSpec.ofChange serveBytesSpec)

/-- ITS FALSE NEIGHBOUR: 'it returns false'. Refute it at one input. -/
def serveBytesWrong : ChangeSpec := { name := "serveBytes", fn := fun _ => fun
  | [d1, d2, d3, d4, d5, d6] => { results := [.lit (.bool false)], args := [d1, d2, d3, d4, d5, d6] }
  | _ => none }
def ServeBytesWrongFalsely : Prop := serveBytesRow.holds Tryz.pinned (OpenSpec.ofChange serveBytesWrong)

/-- 'haywardlaw16.ServeTries': WHATEVER THE INPUT: true; the input reads as it did. -/
def serveTriesSpec : ChangeSpec := { name := "serveTries", fn := fun _ => fun
  | [d1, d2, d3, d4, d5, d6] => { results := [.lit (.bool true)], args := [d1, d2, d3, d4, d5, d6] }
  | _ => none }
def serveTriesRow : OpenClaim := { program := "ytamlipffhimfmaagreatdoor", sum := "c8c209ffef88c24e821d037cfce1a08b6dd4b5f81ac07c76866bd95fe12f0f4e", func := "hayward/haywardlaw16.ServeTries", spec := "serveTries", inPlace := ["internal/reflectlite.TypeOf", "internal/reflectlite.ValueOf", "(internal/reflectlite.Value).Type", "(internal/reflectlite.Value).IsNil", "(internal/reflectlite.Value).Elem", "(internal/reflectlite.Value).Set"], unfollowed := true, recurses := true, named := ["errors.errorType"], plainKeys := false, apart := false, laid := [("errors.errorType", laid_errors_errorType)] }
def ServeTriesSaid : Prop := serveTriesRow.holds Tryz.pinned (OpenSpec.ofChange serveTriesSpec)

/-- ITS FALSE NEIGHBOUR: 'it returns false'. Refute it at one input. -/
def serveTriesWrong : ChangeSpec := { name := "serveTries", fn := fun _ => fun
  | [d1, d2, d3, d4, d5, d6] => { results := [.lit (.bool false)], args := [d1, d2, d3, d4, d5, d6] }
  | _ => none }
def ServeTriesWrongFalsely : Prop := serveTriesRow.holds Tryz.pinned (OpenSpec.ofChange serveTriesWrong)

/-- 'haywardlaw14.PartWhole': WHATEVER THE INPUT: true; the input reads as it did. -/
def partWholeSpec : ChangeSpec := { name := "partWhole", fn := fun _ => fun
  | [d1, d2, d3] => { results := [.lit (.bool true)], args := [d1, d2, d3] }
  | _ => none }
def partWholeRow : OpenClaim := { program := "ytamlipffhimfmaagreatdoor", sum := "c8c209ffef88c24e821d037cfce1a08b6dd4b5f81ac07c76866bd95fe12f0f4e", func := "hayward/haywardlaw14.PartWhole", spec := "partWhole", inPlace := ["internal/reflectlite.TypeOf", "internal/reflectlite.ValueOf", "(internal/reflectlite.Value).Type", "(internal/reflectlite.Value).IsNil", "(internal/reflectlite.Value).Elem", "(internal/reflectlite.Value).Set"], unfollowed := true, recurses := true, named := ["errors.errorType"], plainKeys := false, apart := false, laid := [("errors.errorType", laid_errors_errorType)] }
def PartWholeSaid : Prop := partWholeRow.holds Tryz.pinned (OpenSpec.ofChange partWholeSpec)

/-- ITS FALSE NEIGHBOUR: 'it returns false'. Refute it at one input. -/
def partWholeWrong : ChangeSpec := { name := "partWhole", fn := fun _ => fun
  | [d1, d2, d3] => { results := [.lit (.bool false)], args := [d1, d2, d3] }
  | _ => none }
def PartWholeWrongFalsely : Prop := partWholeRow.holds Tryz.pinned (OpenSpec.ofChange partWholeWrong)

/-- 'haywardlaw14.PartRounds': WHATEVER THE INPUT: true; the input reads as it did. -/
def partRoundsSpec : ChangeSpec := { name := "partRounds", fn := fun _ => fun
  | [d1, d2, d3] => { results := [.lit (.bool true)], args := [d1, d2, d3] }
  | _ => none }
def partRoundsRow : OpenClaim := { program := "ytamlipffhimfmaagreatdoor", sum := "c8c209ffef88c24e821d037cfce1a08b6dd4b5f81ac07c76866bd95fe12f0f4e", func := "hayward/haywardlaw14.PartRounds", spec := "partRounds", inPlace := ["internal/reflectlite.TypeOf", "internal/reflectlite.ValueOf", "(internal/reflectlite.Value).Type", "(internal/reflectlite.Value).IsNil", "(internal/reflectlite.Value).Elem", "(internal/reflectlite.Value).Set"], unfollowed := true, recurses := true, named := ["errors.errorType"], plainKeys := false, apart := false, laid := [("errors.errorType", laid_errors_errorType)] }
def PartRoundsSaid : Prop := partRoundsRow.holds Tryz.pinned (OpenSpec.ofChange partRoundsSpec)

/-- ITS FALSE NEIGHBOUR: 'it returns false'. Refute it at one input. -/
def partRoundsWrong : ChangeSpec := { name := "partRounds", fn := fun _ => fun
  | [d1, d2, d3] => { results := [.lit (.bool false)], args := [d1, d2, d3] }
  | _ => none }
def PartRoundsWrongFalsely : Prop := partRoundsRow.holds Tryz.pinned (OpenSpec.ofChange partRoundsWrong)

/- THE SECOND FORM. 'bulk': how many values and letters a reading holds, each counted each time it is reached (what is shared counts as often as it is met; a slice's spare places count too). A statement '..UptoSaid' is the law's where the arguments, and the package variables that the reading takes, are together of bulk at most 1048576: NARROWER than '..Said'. Prove '..Said' where nothing that the law and all that it calls make is longer than what came in: it says more and counts as full. Else prove '..UptoSaid'. A law counts once. -/
mutual
def uptoBulk {H : Type} : DataW H → Nat
  | .lit (.string bytes) => bytes.length + 1
  | .lit _ => 1
  | .nil => 1
  | .ptr d => uptoBulk d + 1
  | .slice elems spare => uptoBulkAll elems + uptoBulkAll spare + 1
  | .agg parts => uptoBulkAll parts + 1
  | .iface _ d => uptoBulk d + 1
  | .map entries => uptoBulkEntries entries + 1
  | .held _ => 1
def uptoBulkAll {H : Type} : List (DataW H) → Nat
  | [] => 0
  | d :: r => uptoBulk d + uptoBulkAll r
def uptoBulkEntries {H : Type} : List (Lit × DataW H) → Nat
  | [] => 0
  | x :: r => uptoBulkEntry x + uptoBulkEntries r
def uptoBulkEntry {H : Type} : Lit × DataW H → Nat
  | (.string bytes, d) => bytes.length + uptoBulk d + 1
  | (_, d) => uptoBulk d + 1
 end
def uptoSmall : (H : Type) → List (DataW H) → Bool := fun _ ds => decide (uptoBulkAll ds ≤ 1048576)
def OpenSpec.upto (s : _root_.Go.ChangeSpec) : _root_.Go.OpenSpec := { _root_.Go.OpenSpec.ofChange s with cond := some uptoSmall }

/-- 'haywardlaw16.ServeBytes', WHERE WHAT IT READS IS OF BULK AT MOST 1048576: true; the input reads as it did. -/
def serveBytesUptoRow : OpenClaim := { program := "ytamlipffhimfmaagreatdoor", sum := "c8c209ffef88c24e821d037cfce1a08b6dd4b5f81ac07c76866bd95fe12f0f4e", func := "hayward/haywardlaw16.ServeBytes", spec := "serveBytes", inPlace := ["internal/reflectlite.TypeOf", "internal/reflectlite.ValueOf", "(internal/reflectlite.Value).Type", "(internal/reflectlite.Value).IsNil", "(internal/reflectlite.Value).Elem", "(internal/reflectlite.Value).Set"], unfollowed := true, recurses := true, named := ["errors.errorType"], plainKeys := false, apart := false, laid := [("errors.errorType", laid_errors_errorType)], narrowed := true }
def ServeBytesUptoSaid : Prop := serveBytesUptoRow.holds Tryz.pinned (OpenSpec.upto serveBytesSpec)

/-- 'haywardlaw16.ServeTries', WHERE WHAT IT READS IS OF BULK AT MOST 1048576: true; the input reads as it did. -/
def serveTriesUptoRow : OpenClaim := { program := "ytamlipffhimfmaagreatdoor", sum := "c8c209ffef88c24e821d037cfce1a08b6dd4b5f81ac07c76866bd95fe12f0f4e", func := "hayward/haywardlaw16.ServeTries", spec := "serveTries", inPlace := ["internal/reflectlite.TypeOf", "internal/reflectlite.ValueOf", "(internal/reflectlite.Value).Type", "(internal/reflectlite.Value).IsNil", "(internal/reflectlite.Value).Elem", "(internal/reflectlite.Value).Set"], unfollowed := true, recurses := true, named := ["errors.errorType"], plainKeys := false, apart := false, laid := [("errors.errorType", laid_errors_errorType)], narrowed := true }
def ServeTriesUptoSaid : Prop := serveTriesUptoRow.holds Tryz.pinned (OpenSpec.upto serveTriesSpec)

/-- 'haywardlaw14.PartWhole', WHERE WHAT IT READS IS OF BULK AT MOST 1048576: true; the input reads as it did. -/
def partWholeUptoRow : OpenClaim := { program := "ytamlipffhimfmaagreatdoor", sum := "c8c209ffef88c24e821d037cfce1a08b6dd4b5f81ac07c76866bd95fe12f0f4e", func := "hayward/haywardlaw14.PartWhole", spec := "partWhole", inPlace := ["internal/reflectlite.TypeOf", "internal/reflectlite.ValueOf", "(internal/reflectlite.Value).Type", "(internal/reflectlite.Value).IsNil", "(internal/reflectlite.Value).Elem", "(internal/reflectlite.Value).Set"], unfollowed := true, recurses := true, named := ["errors.errorType"], plainKeys := false, apart := false, laid := [("errors.errorType", laid_errors_errorType)], narrowed := true }
def PartWholeUptoSaid : Prop := partWholeUptoRow.holds Tryz.pinned (OpenSpec.upto partWholeSpec)

/-- 'haywardlaw14.PartRounds', WHERE WHAT IT READS IS OF BULK AT MOST 1048576: true; the input reads as it did. -/
def partRoundsUptoRow : OpenClaim := { program := "ytamlipffhimfmaagreatdoor", sum := "c8c209ffef88c24e821d037cfce1a08b6dd4b5f81ac07c76866bd95fe12f0f4e", func := "hayward/haywardlaw14.PartRounds", spec := "partRounds", inPlace := ["internal/reflectlite.TypeOf", "internal/reflectlite.ValueOf", "(internal/reflectlite.Value).Type", "(internal/reflectlite.Value).IsNil", "(internal/reflectlite.Value).Elem", "(internal/reflectlite.Value).Set"], unfollowed := true, recurses := true, named := ["errors.errorType"], plainKeys := false, apart := false, laid := [("errors.errorType", laid_errors_errorType)], narrowed := true }
def PartRoundsUptoSaid : Prop := partRoundsUptoRow.holds Tryz.pinned (OpenSpec.upto partRoundsSpec)

end Rows
end Go.Proofs.YtamlipffhimfmaaGreatDoor
