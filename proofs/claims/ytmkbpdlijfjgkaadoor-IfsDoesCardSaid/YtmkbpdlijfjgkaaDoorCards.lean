/-
  DERIVED. GIVEN WITH THE SEED: THE CARDS: each row of YtmkbpdlijfjgkaaDoorRows.lean that lists a variable, with what it lists TIED to the program's text (the seventh form; the later family's looks); each row that meets fmt, with fmt's text TOLD by the authors' own Lean function (tested against real Go, not proved from fmt's source: count such statements apart). THE CARD IS WHAT COUNTS. Prove the row's statement (the work); the ties are given (YtmkbpdlijfjgkaaDoorTie.lean); close each card by the builder's one call (the guide's Derived/Test/ToyasCard.lean, 'card_holds'). Laid BY PROGRAM, IN A SANDBOX (cutbox-door.mjs). By AI agents, Wed Nov 11 2026. No macro, syntax, notation, axiom, sorry.
-/
import Derived.Test.YtmkbpdlijfjgkaaDoorRows
import GoSem.ClaimSeven
namespace Go.Proofs.YtmkbpdlijfjgkaaDoor
namespace Rows

/-- THE TIED CARD OF 'haywardlaw10.IfsDoes'. -/
def ifsDoesCard : Claim7 := { stood := { row := ifsDoesRow, standIns := [], harness := (true, "89faf1d487ce37622fa6f0d73398f2d5ad4a1898a77e076d2b327f0eb1b5bd3b"), looks := true }, kinds := [], alts := [], laidByText := true, laidKinds := [.handle], laidTests := true, laidLooks := .later }
def IfsDoesCardSaid : Prop := Claim7.holds Tryd.pinned (.plain (OpenSpec.ofChange ifsDoesSpec)) ifsDoesCard

/-- THE TIED CARD OF 'haywardlaw10.IfsCopies'. -/
def ifsCopiesCard : Claim7 := { stood := { row := ifsCopiesRow, standIns := [], harness := (true, "89faf1d487ce37622fa6f0d73398f2d5ad4a1898a77e076d2b327f0eb1b5bd3b"), looks := true }, kinds := [], alts := [], laidByText := true, laidKinds := [.handle], laidTests := true, laidLooks := .later }
def IfsCopiesCardSaid : Prop := Claim7.holds Tryd.pinned (.plain (OpenSpec.ofChange ifsCopiesSpec)) ifsCopiesCard

/-- THE TIED CARD OF 'haywardlaw10.IfsNobody'. -/
def ifsNobodyCard : Claim7 := { stood := { row := ifsNobodyRow, standIns := [], harness := (true, "89faf1d487ce37622fa6f0d73398f2d5ad4a1898a77e076d2b327f0eb1b5bd3b"), looks := true }, kinds := [], alts := [], laidByText := true, laidKinds := [.handle], laidTests := true, laidLooks := .later }
def IfsNobodyCardSaid : Prop := Claim7.holds Tryd.pinned (.plain (OpenSpec.ofChange ifsNobodySpec)) ifsNobodyCard

/-- THE TIED CARD OF 'haywardlaw16.ServeOne'. -/
def serveOneCard : Claim7 := { stood := { row := serveOneRow, standIns := [], harness := (true, "89faf1d487ce37622fa6f0d73398f2d5ad4a1898a77e076d2b327f0eb1b5bd3b"), looks := true }, kinds := [], alts := [], laidByText := true, laidKinds := [.handle], laidTests := true, laidLooks := .later }
def ServeOneCardSaid : Prop := Claim7.holds Tryd.pinned (.plain (OpenSpec.ofChange serveOneSpec)) serveOneCard

/-- THE SECOND FORM's CARD OF 'haywardlaw10.IfsDoes'. -/
def ifsDoesUptoCard : Claim7 := { stood := { row := ifsDoesUptoRow, standIns := [], harness := (true, "89faf1d487ce37622fa6f0d73398f2d5ad4a1898a77e076d2b327f0eb1b5bd3b"), looks := true }, kinds := [], alts := [], laidByText := true, laidKinds := [.handle], laidTests := true, laidLooks := .later }
def IfsDoesUptoCardSaid : Prop := Claim7.holds Tryd.pinned (.plain (OpenSpec.upto ifsDoesSpec)) ifsDoesUptoCard

/-- THE SECOND FORM's CARD OF 'haywardlaw10.IfsCopies'. -/
def ifsCopiesUptoCard : Claim7 := { stood := { row := ifsCopiesUptoRow, standIns := [], harness := (true, "89faf1d487ce37622fa6f0d73398f2d5ad4a1898a77e076d2b327f0eb1b5bd3b"), looks := true }, kinds := [], alts := [], laidByText := true, laidKinds := [.handle], laidTests := true, laidLooks := .later }
def IfsCopiesUptoCardSaid : Prop := Claim7.holds Tryd.pinned (.plain (OpenSpec.upto ifsCopiesSpec)) ifsCopiesUptoCard

/-- THE SECOND FORM's CARD OF 'haywardlaw10.IfsNobody'. -/
def ifsNobodyUptoCard : Claim7 := { stood := { row := ifsNobodyUptoRow, standIns := [], harness := (true, "89faf1d487ce37622fa6f0d73398f2d5ad4a1898a77e076d2b327f0eb1b5bd3b"), looks := true }, kinds := [], alts := [], laidByText := true, laidKinds := [.handle], laidTests := true, laidLooks := .later }
def IfsNobodyUptoCardSaid : Prop := Claim7.holds Tryd.pinned (.plain (OpenSpec.upto ifsNobodySpec)) ifsNobodyUptoCard

/-- THE SECOND FORM's CARD OF 'haywardlaw16.ServeOne'. -/
def serveOneUptoCard : Claim7 := { stood := { row := serveOneUptoRow, standIns := [], harness := (true, "89faf1d487ce37622fa6f0d73398f2d5ad4a1898a77e076d2b327f0eb1b5bd3b"), looks := true }, kinds := [], alts := [], laidByText := true, laidKinds := [.handle], laidTests := true, laidLooks := .later }
def ServeOneUptoCardSaid : Prop := Claim7.holds Tryd.pinned (.plain (OpenSpec.upto serveOneSpec)) serveOneUptoCard
end Rows
end Go.Proofs.YtmkbpdlijfjgkaaDoor
