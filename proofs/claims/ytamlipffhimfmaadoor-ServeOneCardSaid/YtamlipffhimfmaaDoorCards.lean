/-
  DERIVED. GIVEN WITH THE SEED: THE CARDS: each row of YtamlipffhimfmaaDoorRows.lean that lists a variable, with what it lists TIED to the program's text (the seventh form; the later family's looks); each row that meets fmt, with fmt's text TOLD by the authors' own Lean function (tested against real Go, not proved from fmt's source: count such statements apart). THE CARD IS WHAT COUNTS. Prove the row's statement (the work); the ties are given (YtamlipffhimfmaaDoorTie.lean); close each card by the builder's one call (the guide's Derived/Test/ToyasCard.lean, 'card_holds'). Laid BY PROGRAM, IN A SANDBOX (cutbox-door.mjs). By AI agents, Wed Nov 11 2026. No macro, syntax, notation, axiom, sorry.
-/
import Derived.Test.YtamlipffhimfmaaDoorRows
import GoSem.ClaimSeven
namespace Go.Proofs.YtamlipffhimfmaaDoor
namespace Rows

/-- THE TIED CARD OF 'haywardlaw16.ServeOne'. -/
def serveOneCard : Claim7 := { stood := { row := serveOneRow, standIns := [], harness := (true, "9275755b8a238110e40e7d30c084ece440bb402b7017943d16808f75c1ab0912"), looks := true }, kinds := [], alts := [], laidByText := true, laidKinds := [.handle], laidTests := true, laidLooks := .later }
def ServeOneCardSaid : Prop := Claim7.holds Tryd.pinned (.plain (OpenSpec.ofChange serveOneSpec)) serveOneCard

/-- THE SECOND FORM's CARD OF 'haywardlaw16.ServeOne'. -/
def serveOneUptoCard : Claim7 := { stood := { row := serveOneUptoRow, standIns := [], harness := (true, "9275755b8a238110e40e7d30c084ece440bb402b7017943d16808f75c1ab0912"), looks := true }, kinds := [], alts := [], laidByText := true, laidKinds := [.handle], laidTests := true, laidLooks := .later }
def ServeOneUptoCardSaid : Prop := Claim7.holds Tryd.pinned (.plain (OpenSpec.upto serveOneSpec)) serveOneUptoCard
end Rows
end Go.Proofs.YtamlipffhimfmaaDoor
