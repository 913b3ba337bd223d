/-
  DERIVED. GIVEN WITH THE SEED: THE CARDS: each row of YtoamchhmehpgoaaGreatDoorRows.lean that lists a variable, with what it lists TIED to the program's text (the seventh form; the later family's looks); each row that meets fmt, with fmt's text TOLD by the authors' own Lean function (tested against real Go, not proved from fmt's source: count such statements apart). THE CARD IS WHAT COUNTS. Prove the row's statement (the work); the ties are given (YtoamchhmehpgoaaGreatDoorTie.lean); close each card by the builder's one call (the guide's Derived/Test/ToyasCard.lean, 'card_holds'). Laid BY PROGRAM, IN A SANDBOX (cutbox-door.mjs). By AI agents, Wed Nov 11 2026. No macro, syntax, notation, axiom, sorry.
-/
import Derived.Test.YtoamchhmehpgoaaGreatDoorRows
import GoSem.ClaimSeven
namespace Go.Proofs.YtoamchhmehpgoaaGreatDoor
namespace Rows

/-- THE TIED CARD OF 'plaitinglaw18.ShellWords'. -/
def shellWordsCard : Claim7 := { stood := { row := shellWordsRow, standIns := [], harness := (true, "76c8c557c8dcb865c444145c87028af8295a3c30353c6e625601a35db1b7ed00"), looks := true }, kinds := [], alts := [], laidByText := true, laidKinds := [.data, .data, .data, .data, .sentinel, .sentinel, .pinned], laidTests := true, laidLooks := .later }
def ShellWordsCardSaid : Prop := Claim7.holds Tryz.pinned (.plain (OpenSpec.ofChange shellWordsSpec)) shellWordsCard

/-- THE TIED CARD OF 'plaitinglaw18.ShellQuotes'. -/
def shellQuotesCard : Claim7 := { stood := { row := shellQuotesRow, standIns := [], harness := (true, "76c8c557c8dcb865c444145c87028af8295a3c30353c6e625601a35db1b7ed00"), looks := true }, kinds := [], alts := [], laidByText := true, laidKinds := [.data, .data, .data, .data, .sentinel, .sentinel, .pinned], laidTests := true, laidLooks := .later }
def ShellQuotesCardSaid : Prop := Claim7.holds Tryz.pinned (.plain (OpenSpec.ofChange shellQuotesSpec)) shellQuotesCard

/-- THE SECOND FORM's CARD OF 'plaitinglaw18.ShellWords'. -/
def shellWordsUptoCard : Claim7 := { stood := { row := shellWordsUptoRow, standIns := [], harness := (true, "76c8c557c8dcb865c444145c87028af8295a3c30353c6e625601a35db1b7ed00"), looks := true }, kinds := [], alts := [], laidByText := true, laidKinds := [.data, .data, .data, .data, .sentinel, .sentinel, .pinned], laidTests := true, laidLooks := .later }
def ShellWordsUptoCardSaid : Prop := Claim7.holds Tryz.pinned (.plain (OpenSpec.upto shellWordsSpec)) shellWordsUptoCard

/-- THE SECOND FORM's CARD OF 'plaitinglaw18.ShellQuotes'. -/
def shellQuotesUptoCard : Claim7 := { stood := { row := shellQuotesUptoRow, standIns := [], harness := (true, "76c8c557c8dcb865c444145c87028af8295a3c30353c6e625601a35db1b7ed00"), looks := true }, kinds := [], alts := [], laidByText := true, laidKinds := [.data, .data, .data, .data, .sentinel, .sentinel, .pinned], laidTests := true, laidLooks := .later }
def ShellQuotesUptoCardSaid : Prop := Claim7.holds Tryz.pinned (.plain (OpenSpec.upto shellQuotesSpec)) shellQuotesUptoCard
end Rows
end Go.Proofs.YtoamchhmehpgoaaGreatDoor
