/-
  DERIVED. GIVEN WITH THE SEED: THE CARDS: each row of YtbhamhhjicehaaaGreatDoorRows.lean that lists a variable, with what it lists TIED to the program's text (the seventh form; the later family's looks); each row that meets fmt, with fmt's text TOLD by the authors' own Lean function (tested against real Go, not proved from fmt's source: count such statements apart). THE CARD IS WHAT COUNTS. Prove the row's statement (the work); the ties are given (YtbhamhhjicehaaaGreatDoorTie.lean); close each card by the builder's one call (the guide's Derived/Test/ToyasCard.lean, 'card_holds'). Laid BY PROGRAM, IN A SANDBOX (cutbox-door.mjs). By AI agents, Wed Nov 11 2026. No macro, syntax, notation, axiom, sorry.
-/
import Derived.Test.YtbhamhhjicehaaaGreatDoorRows
import GoSem.ClaimSeven
namespace Go.Proofs.YtbhamhhjicehaaaGreatDoor
namespace Rows

/-- THE TIED CARD OF 'haywardlaw15.BusApart'. -/
def busApartCard : Claim7 := { stood := { row := busApartRow, standIns := [], harness := (true, "f33ae209eec640f545b6cda26464791a66caf5d42bd2d64940da93963f7b3148"), looks := true }, kinds := [], alts := [], laidByText := true, laidKinds := [.handle], laidTests := true, laidLooks := .later }
def BusApartCardSaid : Prop := Claim7.holds Tryz.pinned (.plain (OpenSpec.ofChange busApartSpec)) busApartCard

/-- THE TIED CARD OF 'haywardlaw15.BusRounds'. -/
def busRoundsCard : Claim7 := { stood := { row := busRoundsRow, standIns := [], harness := (true, "f33ae209eec640f545b6cda26464791a66caf5d42bd2d64940da93963f7b3148"), looks := true }, kinds := [], alts := [], laidByText := true, laidKinds := [.handle], laidTests := true, laidLooks := .later }
def BusRoundsCardSaid : Prop := Claim7.holds Tryz.pinned (.plain (OpenSpec.ofChange busRoundsSpec)) busRoundsCard

/-- THE TIED CARD OF 'haywardlaw15.BusTrue'. -/
def busTrueCard : Claim7 := { stood := { row := busTrueRow, standIns := [], harness := (true, "f33ae209eec640f545b6cda26464791a66caf5d42bd2d64940da93963f7b3148"), looks := true }, kinds := [], alts := [], laidByText := true, laidKinds := [.handle], laidTests := true, laidLooks := .later }
def BusTrueCardSaid : Prop := Claim7.holds Tryz.pinned (.plain (OpenSpec.ofChange busTrueSpec)) busTrueCard

/-- THE SECOND FORM's CARD OF 'haywardlaw15.BusApart'. -/
def busApartUptoCard : Claim7 := { stood := { row := busApartUptoRow, standIns := [], harness := (true, "f33ae209eec640f545b6cda26464791a66caf5d42bd2d64940da93963f7b3148"), looks := true }, kinds := [], alts := [], laidByText := true, laidKinds := [.handle], laidTests := true, laidLooks := .later }
def BusApartUptoCardSaid : Prop := Claim7.holds Tryz.pinned (.plain (OpenSpec.upto busApartSpec)) busApartUptoCard

/-- THE SECOND FORM's CARD OF 'haywardlaw15.BusRounds'. -/
def busRoundsUptoCard : Claim7 := { stood := { row := busRoundsUptoRow, standIns := [], harness := (true, "f33ae209eec640f545b6cda26464791a66caf5d42bd2d64940da93963f7b3148"), looks := true }, kinds := [], alts := [], laidByText := true, laidKinds := [.handle], laidTests := true, laidLooks := .later }
def BusRoundsUptoCardSaid : Prop := Claim7.holds Tryz.pinned (.plain (OpenSpec.upto busRoundsSpec)) busRoundsUptoCard

/-- THE SECOND FORM's CARD OF 'haywardlaw15.BusTrue'. -/
def busTrueUptoCard : Claim7 := { stood := { row := busTrueUptoRow, standIns := [], harness := (true, "f33ae209eec640f545b6cda26464791a66caf5d42bd2d64940da93963f7b3148"), looks := true }, kinds := [], alts := [], laidByText := true, laidKinds := [.handle], laidTests := true, laidLooks := .later }
def BusTrueUptoCardSaid : Prop := Claim7.holds Tryz.pinned (.plain (OpenSpec.upto busTrueSpec)) busTrueUptoCard
end Rows
end Go.Proofs.YtbhamhhjicehaaaGreatDoor
