/-
  NARROWER THAN 'FOR EVERY INPUT', by the rows' own cells (each row's printed sentence says how): IfsDoes: laid · IfsCopies: laid · IfsNobody: laid · ServeOne: laid.
  DERIVED. THE GIVEN ROWS OF THIS SEAT. 4 by the template 'for every input the law returns true; each argument reads behind the call as it read before'; 0 by the template 'total and deterministic' (their statements: YtmkbpdlijfjgkaaDoorTotals.lean).
  GIVEN WITH THE SEED: the statements are not yours to turn. If you find one false, say at which input.
  Laid BY PROGRAM, IN A SANDBOX (cutbox-rows.mjs): the forced cells as the released guide's own fill.sh prints them over the translation 6152f87f5e108387… (all of the seat's roots in one cut). By AI agents, Wed Nov 11 2026. No macro, syntax, notation, axiom, sorry.
-/
import Derived.Test.YtmkbpdlijfjgkaaDoorChecked
import GoSem.Claim
import GoSem.ClaimJoined
import GoSem.ClaimMapViews
import Derived.JoinedTies
import Derived.KernelRfl
namespace Go.Proofs.YtmkbpdlijfjgkaaDoor
/- THE CELL 'sum', in the pinned program and in every row, IS THE sha256 OF THE DUMP (.gsa) THAT YtmkbpdlijfjgkaaDoorProg.lean LOADS. Nothing in Lean hashes anything: it is a label: what it is worth is what the hold of that sum in a sandbox is worth. -/
noncomputable def Tryd.pinned : Pinned := { name := "ytmkbpdlijfjgkaadoor", sum := "6152f87f5e1083871c1b2b5f2857b448db5a641e7e9e4ba13ef8c8df9b2734ee", checked := Tryd.checked }
namespace Rows
def none {H : Type} : Left H := { results := [], args := [] }

/- WHAT THE LISTED PACKAGE-LEVEL VARIABLES READ AS WHEN THE CALL BEGINS. Each datum BY PROGRAM (the guide's laid-datum.mjs) off the statement by which the dump's own 'gosem.cut.vars' lays the variable. In a bare row this is a premise. The card (YtmkbpdlijfjgkaaDoorCards.lean) ties it to the program's text. -/
def laid_errors_errorType {H : Type} : DataW H := .iface "internal/reflectlite.rtype" (.agg [.ptr (.lit (.string [101, 114, 114, 111, 114]))])

/-- 'haywardlaw10.IfsDoes': WHATEVER THE INPUT: true; the input reads as it did. -/
def ifsDoesSpec : ChangeSpec := { name := "ifsDoes", fn := fun _ => fun
  | [d] => { results := [.lit (.bool true)], args := [d] }
  | _ => none }
def ifsDoesRow : OpenClaim := { program := "ytmkbpdlijfjgkaadoor", sum := "6152f87f5e1083871c1b2b5f2857b448db5a641e7e9e4ba13ef8c8df9b2734ee", func := "hayward/haywardlaw10.IfsDoes", spec := "ifsDoes", inPlace := ["internal/reflectlite.TypeOf", "internal/reflectlite.ValueOf", "(internal/reflectlite.Value).Type", "(internal/reflectlite.Value).IsNil", "(internal/reflectlite.Value).Elem", "(internal/reflectlite.Value).Set"], unfollowed := true, recurses := true, named := ["errors.errorType"], apart := false, laid := [("errors.errorType", laid_errors_errorType)] }
def IfsDoesSaid : Prop := ifsDoesRow.holds Tryd.pinned (OpenSpec.ofChange ifsDoesSpec)

/-- ITS FALSE NEIGHBOUR: 'it returns false'. Refute it at one input. -/
def ifsDoesWrong : ChangeSpec := { name := "ifsDoes", fn := fun _ => fun
  | [d] => { results := [.lit (.bool false)], args := [d] }
  | _ => none }
def IfsDoesWrongFalsely : Prop := ifsDoesRow.holds Tryd.pinned (OpenSpec.ofChange ifsDoesWrong)

/-- 'haywardlaw10.IfsCopies': WHATEVER THE INPUT: true; the input reads as it did. -/
def ifsCopiesSpec : ChangeSpec := { name := "ifsCopies", fn := fun _ => fun
  | [d1, d2] => { results := [.lit (.bool true)], args := [d1, d2] }
  | _ => none }
def ifsCopiesRow : OpenClaim := { program := "ytmkbpdlijfjgkaadoor", sum := "6152f87f5e1083871c1b2b5f2857b448db5a641e7e9e4ba13ef8c8df9b2734ee", func := "hayward/haywardlaw10.IfsCopies", spec := "ifsCopies", inPlace := ["internal/reflectlite.TypeOf", "internal/reflectlite.ValueOf", "(internal/reflectlite.Value).Type", "(internal/reflectlite.Value).IsNil", "(internal/reflectlite.Value).Elem", "(internal/reflectlite.Value).Set"], unfollowed := true, recurses := true, named := ["errors.errorType"], apart := false, laid := [("errors.errorType", laid_errors_errorType)] }
def IfsCopiesSaid : Prop := ifsCopiesRow.holds Tryd.pinned (OpenSpec.ofChange ifsCopiesSpec)

/-- ITS FALSE NEIGHBOUR: 'it returns false'. Refute it at one input. -/
def ifsCopiesWrong : ChangeSpec := { name := "ifsCopies", fn := fun _ => fun
  | [d1, d2] => { results := [.lit (.bool false)], args := [d1, d2] }
  | _ => none }
def IfsCopiesWrongFalsely : Prop := ifsCopiesRow.holds Tryd.pinned (OpenSpec.ofChange ifsCopiesWrong)

/-- 'haywardlaw10.IfsNobody': WHATEVER THE INPUT: true; the input reads as it did. -/
def ifsNobodySpec : ChangeSpec := { name := "ifsNobody", fn := fun _ => fun
  | [d] => { results := [.lit (.bool true)], args := [d] }
  | _ => none }
def ifsNobodyRow : OpenClaim := { program := "ytmkbpdlijfjgkaadoor", sum := "6152f87f5e1083871c1b2b5f2857b448db5a641e7e9e4ba13ef8c8df9b2734ee", func := "hayward/haywardlaw10.IfsNobody", spec := "ifsNobody", inPlace := ["internal/reflectlite.TypeOf", "internal/reflectlite.ValueOf", "(internal/reflectlite.Value).Type", "(internal/reflectlite.Value).IsNil", "(internal/reflectlite.Value).Elem", "(internal/reflectlite.Value).Set"], unfollowed := true, recurses := true, named := ["errors.errorType"], apart := false, laid := [("errors.errorType", laid_errors_errorType)] }
def IfsNobodySaid : Prop := ifsNobodyRow.holds Tryd.pinned (OpenSpec.ofChange ifsNobodySpec)

/-- ITS FALSE NEIGHBOUR: 'it returns false'. Refute it at one input. -/
def ifsNobodyWrong : ChangeSpec := { name := "ifsNobody", fn := fun _ => fun
  | [d] => { results := [.lit (.bool false)], args := [d] }
  | _ => none }
def IfsNobodyWrongFalsely : Prop := ifsNobodyRow.holds Tryd.pinned (OpenSpec.ofChange ifsNobodyWrong)

/-- 'haywardlaw16.ServeOne': WHATEVER THE INPUT: true; the input reads as it did. -/
def serveOneSpec : ChangeSpec := { name := "serveOne", fn := fun _ => fun
  | [d1, d2, d3, d4, d5, d6] => { results := [.lit (.bool true)], args := [d1, d2, d3, d4, d5, d6] }
  | _ => none }
def serveOneRow : OpenClaim := { program := "ytmkbpdlijfjgkaadoor", sum := "6152f87f5e1083871c1b2b5f2857b448db5a641e7e9e4ba13ef8c8df9b2734ee", func := "hayward/haywardlaw16.ServeOne", spec := "serveOne", inPlace := ["internal/reflectlite.TypeOf", "internal/reflectlite.ValueOf", "(internal/reflectlite.Value).Type", "(internal/reflectlite.Value).IsNil", "(internal/reflectlite.Value).Elem", "(internal/reflectlite.Value).Set"], unfollowed := true, recurses := true, named := ["errors.errorType"], apart := false, laid := [("errors.errorType", laid_errors_errorType)] }
def ServeOneSaid : Prop := serveOneRow.holds Tryd.pinned (OpenSpec.ofChange serveOneSpec)

/-- ITS FALSE NEIGHBOUR: 'it returns false'. Refute it at one input. -/
def serveOneWrong : ChangeSpec := { name := "serveOne", fn := fun _ => fun
  | [d1, d2, d3, d4, d5, d6] => { results := [.lit (.bool false)], args := [d1, d2, d3, d4, d5, d6] }
  | _ => none }
def ServeOneWrongFalsely : Prop := serveOneRow.holds Tryd.pinned (OpenSpec.ofChange serveOneWrong)

/- THE SECOND FORM. 'bulk': how many values and letters a reading holds, each counted each time it is reached (what is shared counts as often as it is met; a slice's spare places count too). A statement '..UptoSaid' is the law's where the arguments, and the package variables that the reading takes, are together of bulk at most 1048576: NARROWER than '..Said'. Prove '..Said' where nothing that the law and all that it calls make is longer than what came in: it says more and counts as full. Else prove '..UptoSaid'. A law counts once. -/
mutual
def uptoBulk {H : Type} : DataW H → Nat
  | .lit (.string bytes) => bytes.length + 1
  | .lit _ => 1
  | .nil => 1
  | .ptr d => uptoBulk d + 1
  | .slice elems spare => uptoBulkAll elems + uptoBulkAll spare + 1
  | .agg parts => uptoBulkAll parts + 1
  | .iface _ d => uptoBulk d + 1
  | .map entries => uptoBulkEntries entries + 1
  | .held _ => 1
def uptoBulkAll {H : Type} : List (DataW H) → Nat
  | [] => 0
  | d :: r => uptoBulk d + uptoBulkAll r
def uptoBulkEntries {H : Type} : List (Lit × DataW H) → Nat
  | [] => 0
  | x :: r => uptoBulkEntry x + uptoBulkEntries r
def uptoBulkEntry {H : Type} : Lit × DataW H → Nat
  | (.string bytes, d) => bytes.length + uptoBulk d + 1
  | (_, d) => uptoBulk d + 1
 end
def uptoSmall : (H : Type) → List (DataW H) → Bool := fun _ ds => decide (uptoBulkAll ds ≤ 1048576)
def OpenSpec.upto (s : _root_.Go.ChangeSpec) : _root_.Go.OpenSpec := { _root_.Go.OpenSpec.ofChange s with cond := some uptoSmall }

/-- 'haywardlaw10.IfsDoes', WHERE WHAT IT READS IS OF BULK AT MOST 1048576: true; the input reads as it did. -/
def ifsDoesUptoRow : OpenClaim := { program := "ytmkbpdlijfjgkaadoor", sum := "6152f87f5e1083871c1b2b5f2857b448db5a641e7e9e4ba13ef8c8df9b2734ee", func := "hayward/haywardlaw10.IfsDoes", spec := "ifsDoes", inPlace := ["internal/reflectlite.TypeOf", "internal/reflectlite.ValueOf", "(internal/reflectlite.Value).Type", "(internal/reflectlite.Value).IsNil", "(internal/reflectlite.Value).Elem", "(internal/reflectlite.Value).Set"], unfollowed := true, recurses := true, named := ["errors.errorType"], apart := false, laid := [("errors.errorType", laid_errors_errorType)], narrowed := true }
def IfsDoesUptoSaid : Prop := ifsDoesUptoRow.holds Tryd.pinned (OpenSpec.upto ifsDoesSpec)

/-- 'haywardlaw10.IfsCopies', WHERE WHAT IT READS IS OF BULK AT MOST 1048576: true; the input reads as it did. -/
def ifsCopiesUptoRow : OpenClaim := { program := "ytmkbpdlijfjgkaadoor", sum := "6152f87f5e1083871c1b2b5f2857b448db5a641e7e9e4ba13ef8c8df9b2734ee", func := "hayward/haywardlaw10.IfsCopies", spec := "ifsCopies", inPlace := ["internal/reflectlite.TypeOf", "internal/reflectlite.ValueOf", "(internal/reflectlite.Value).Type", "(internal/reflectlite.Value).IsNil", "(internal/reflectlite.Value).Elem", "(internal/reflectlite.Value).Set"], unfollowed := true, recurses := true, named := ["errors.errorType"], apart := false, laid := [("errors.errorType", laid_errors_errorType)], narrowed := true }
def IfsCopiesUptoSaid : Prop := ifsCopiesUptoRow.holds Tryd.pinned (OpenSpec.upto ifsCopiesSpec)

/-- 'haywardlaw10.IfsNobody', WHERE WHAT IT READS IS OF BULK AT MOST 1048576: true; the input reads as it did. -/
def ifsNobodyUptoRow : OpenClaim := { program := "ytmkbpdlijfjgkaadoor", sum := "6152f87f5e1083871c1b2b5f2857b448db5a641e7e9e4ba13ef8c8df9b2734ee", func := "hayward/haywardlaw10.IfsNobody", spec := "ifsNobody", inPlace := ["internal/reflectlite.TypeOf", "internal/reflectlite.ValueOf", "(internal/reflectlite.Value).Type", "(internal/reflectlite.Value).IsNil", "(internal/reflectlite.Value).Elem", "(internal/reflectlite.Value).Set"], unfollowed := true, recurses := true, named := ["errors.errorType"], apart := false, laid := [("errors.errorType", laid_errors_errorType)], narrowed := true }
def IfsNobodyUptoSaid : Prop := ifsNobodyUptoRow.holds Tryd.pinned (OpenSpec.upto ifsNobodySpec)

/-- 'haywardlaw16.ServeOne', WHERE WHAT IT READS IS OF BULK AT MOST 1048576: true; the input reads as it did. -/
def serveOneUptoRow : OpenClaim := { program := "ytmkbpdlijfjgkaadoor", sum := "6152f87f5e1083871c1b2b5f2857b448db5a641e7e9e4ba13ef8c8df9b2734ee", func := "hayward/haywardlaw16.ServeOne", spec := "serveOne", inPlace := ["internal/reflectlite.TypeOf", "internal/reflectlite.ValueOf", "(internal/reflectlite.Value).Type", "(internal/reflectlite.Value).IsNil", "(internal/reflectlite.Value).Elem", "(internal/reflectlite.Value).Set"], unfollowed := true, recurses := true, named := ["errors.errorType"], apart := false, laid := [("errors.errorType", laid_errors_errorType)], narrowed := true }
def ServeOneUptoSaid : Prop := serveOneUptoRow.holds Tryd.pinned (OpenSpec.upto serveOneSpec)

end Rows
end Go.Proofs.YtmkbpdlijfjgkaaDoor
