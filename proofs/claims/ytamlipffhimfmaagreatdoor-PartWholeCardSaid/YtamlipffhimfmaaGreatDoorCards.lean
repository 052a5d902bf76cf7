/-
  DERIVED. GIVEN WITH THE SEED: THE CARDS: each row of YtamlipffhimfmaaGreatDoorRows.lean that lists a variable, with what it lists TIED to the program's text (the seventh form; the later family's looks); each row that meets fmt, with fmt's text TOLD by the authors' own Lean function (tested against real Go, not proved from fmt's source: count such statements apart). THE CARD IS WHAT COUNTS. Prove the row's statement (the work); the ties are given (YtamlipffhimfmaaGreatDoorTie.lean); close each card by the builder's one call (the guide's Derived/Test/ToyasCard.lean, 'card_holds'). Laid BY PROGRAM, IN A SANDBOX (cutbox-door.mjs). By AI agents, Wed Nov 11 2026. No macro, syntax, notation, axiom, sorry.
-/
import Derived.Test.YtamlipffhimfmaaGreatDoorRows
import GoSem.ClaimSeven
namespace Go.Proofs.YtamlipffhimfmaaGreatDoor
namespace Rows

/-- THE TIED CARD OF 'haywardlaw16.ServeBytes'. -/
def serveBytesCard : Claim7 := { stood := { row := serveBytesRow, standIns := [], harness := (true, "ff16387a1be546d37bb786fc5433a862daac6ee5aad9e756e41ab781977a93d5"), looks := true }, kinds := [], alts := [], laidByText := true, laidKinds := [.handle], laidTests := true, laidLooks := .later }
def ServeBytesCardSaid : Prop := Claim7.holds Tryz.pinned (.plain (OpenSpec.ofChange serveBytesSpec)) serveBytesCard

/-- THE TIED CARD OF 'haywardlaw16.ServeTries'. -/
def serveTriesCard : Claim7 := { stood := { row := serveTriesRow, standIns := [], harness := (true, "ff16387a1be546d37bb786fc5433a862daac6ee5aad9e756e41ab781977a93d5"), looks := true }, kinds := [], alts := [], laidByText := true, laidKinds := [.handle], laidTests := true, laidLooks := .later }
def ServeTriesCardSaid : Prop := Claim7.holds Tryz.pinned (.plain (OpenSpec.ofChange serveTriesSpec)) serveTriesCard

/-- THE TIED CARD OF 'haywardlaw14.PartWhole'. -/
def partWholeCard : Claim7 := { stood := { row := partWholeRow, standIns := [], harness := (true, "ff16387a1be546d37bb786fc5433a862daac6ee5aad9e756e41ab781977a93d5"), looks := true }, kinds := [], alts := [], laidByText := true, laidKinds := [.handle], laidTests := true, laidLooks := .later }
def PartWholeCardSaid : Prop := Claim7.holds Tryz.pinned (.plain (OpenSpec.ofChange partWholeSpec)) partWholeCard

/-- THE TIED CARD OF 'haywardlaw14.PartRounds'. -/
def partRoundsCard : Claim7 := { stood := { row := partRoundsRow, standIns := [], harness := (true, "ff16387a1be546d37bb786fc5433a862daac6ee5aad9e756e41ab781977a93d5"), looks := true }, kinds := [], alts := [], laidByText := true, laidKinds := [.handle], laidTests := true, laidLooks := .later }
def PartRoundsCardSaid : Prop := Claim7.holds Tryz.pinned (.plain (OpenSpec.ofChange partRoundsSpec)) partRoundsCard

/-- THE SECOND FORM's CARD OF 'haywardlaw16.ServeBytes'. -/
def serveBytesUptoCard : Claim7 := { stood := { row := serveBytesUptoRow, standIns := [], harness := (true, "ff16387a1be546d37bb786fc5433a862daac6ee5aad9e756e41ab781977a93d5"), looks := true }, kinds := [], alts := [], laidByText := true, laidKinds := [.handle], laidTests := true, laidLooks := .later }
def ServeBytesUptoCardSaid : Prop := Claim7.holds Tryz.pinned (.plain (OpenSpec.upto serveBytesSpec)) serveBytesUptoCard

/-- THE SECOND FORM's CARD OF 'haywardlaw16.ServeTries'. -/
def serveTriesUptoCard : Claim7 := { stood := { row := serveTriesUptoRow, standIns := [], harness := (true, "ff16387a1be546d37bb786fc5433a862daac6ee5aad9e756e41ab781977a93d5"), looks := true }, kinds := [], alts := [], laidByText := true, laidKinds := [.handle], laidTests := true, laidLooks := .later }
def ServeTriesUptoCardSaid : Prop := Claim7.holds Tryz.pinned (.plain (OpenSpec.upto serveTriesSpec)) serveTriesUptoCard

/-- THE SECOND FORM's CARD OF 'haywardlaw14.PartWhole'. -/
def partWholeUptoCard : Claim7 := { stood := { row := partWholeUptoRow, standIns := [], harness := (true, "ff16387a1be546d37bb786fc5433a862daac6ee5aad9e756e41ab781977a93d5"), looks := true }, kinds := [], alts := [], laidByText := true, laidKinds := [.handle], laidTests := true, laidLooks := .later }
def PartWholeUptoCardSaid : Prop := Claim7.holds Tryz.pinned (.plain (OpenSpec.upto partWholeSpec)) partWholeUptoCard

/-- THE SECOND FORM's CARD OF 'haywardlaw14.PartRounds'. -/
def partRoundsUptoCard : Claim7 := { stood := { row := partRoundsUptoRow, standIns := [], harness := (true, "ff16387a1be546d37bb786fc5433a862daac6ee5aad9e756e41ab781977a93d5"), looks := true }, kinds := [], alts := [], laidByText := true, laidKinds := [.handle], laidTests := true, laidLooks := .later }
def PartRoundsUptoCardSaid : Prop := Claim7.holds Tryz.pinned (.plain (OpenSpec.upto partRoundsSpec)) partRoundsUptoCard
end Rows
end Go.Proofs.YtamlipffhimfmaaGreatDoor
