/-
  DERIVED. GIVEN WITH THE SEED: THE CARDS: each row of YtkhclggkicnndaaDoorRows.lean that lists a variable, with what it lists TIED to the program's text (the seventh form; the later family's looks); each row that meets fmt, with fmt's text TOLD by the authors' own Lean function (tested against real Go, not proved from fmt's source: count such statements apart). THE CARD IS WHAT COUNTS. Prove the row's statement (the work); the ties are given (YtkhclggkicnndaaDoorTie.lean); close each card by the builder's one call (the guide's Derived/Test/ToyasCard.lean, 'card_holds'). Laid BY PROGRAM, IN A SANDBOX (cutbox-door.mjs). By AI agents, Wed Nov 11 2026. No macro, syntax, notation, axiom, sorry.
-/
import Derived.Test.YtkhclggkicnndaaDoorRows
import GoSem.ClaimSeven
namespace Go.Proofs.YtkhclggkicnndaaDoor
namespace Rows

/-- THE TIED CARD OF 'partitalaw14.PlayerCuts'. -/
def playerCutsCard : Claim7 := { stood := { row := playerCutsRow, standIns := [], harness := (true, "7227c55144bc419780eb65c715099d15104b424c7d3e16f4dd47391665dc2007"), looks := true }, kinds := [], alts := [], laidByText := true, laidKinds := [.handle], laidTests := true, laidLooks := .later }
def PlayerCutsCardSaid : Prop := Claim7.holds Tryd.pinned (.plain (OpenSpec.ofChange playerCutsSpec)) playerCutsCard

/-- THE TIED CARD OF 'partitalaw14.PlayerThrough'. -/
def playerThroughCard : Claim7 := { stood := { row := playerThroughRow, standIns := [], harness := (true, "7227c55144bc419780eb65c715099d15104b424c7d3e16f4dd47391665dc2007"), looks := true }, kinds := [], alts := [], laidByText := true, laidKinds := [.handle], laidTests := true, laidLooks := .later }
def PlayerThroughCardSaid : Prop := Claim7.holds Tryd.pinned (.plain (OpenSpec.ofChange playerThroughSpec)) playerThroughCard

/-- THE TIED CARD OF 'partitalaw14.PlayerLater'. -/
def playerLaterCard : Claim7 := { stood := { row := playerLaterRow, standIns := [], harness := (true, "7227c55144bc419780eb65c715099d15104b424c7d3e16f4dd47391665dc2007"), looks := true }, kinds := [], alts := [], laidByText := true, laidKinds := [.handle], laidTests := true, laidLooks := .later }
def PlayerLaterCardSaid : Prop := Claim7.holds Tryd.pinned (.plain (OpenSpec.ofChange playerLaterSpec)) playerLaterCard

/-- THE TIED CARD OF 'partitalaw14.PlayerSpeeds'. -/
def playerSpeedsCard : Claim7 := { stood := { row := playerSpeedsRow, standIns := [], harness := (true, "7227c55144bc419780eb65c715099d15104b424c7d3e16f4dd47391665dc2007"), looks := true }, kinds := [], alts := [], laidByText := true, laidKinds := [.handle], laidTests := true, laidLooks := .later }
def PlayerSpeedsCardSaid : Prop := Claim7.holds Tryd.pinned (.plain (OpenSpec.ofChange playerSpeedsSpec)) playerSpeedsCard

/-- THE TIED CARD OF 'partitalaw14.PlayerLoops'. -/
def playerLoopsCard : Claim7 := { stood := { row := playerLoopsRow, standIns := [], harness := (true, "7227c55144bc419780eb65c715099d15104b424c7d3e16f4dd47391665dc2007"), looks := true }, kinds := [], alts := [], laidByText := true, laidKinds := [.handle], laidTests := true, laidLooks := .later }
def PlayerLoopsCardSaid : Prop := Claim7.holds Tryd.pinned (.plain (OpenSpec.ofChange playerLoopsSpec)) playerLoopsCard

/-- THE TIED CARD OF 'partitalaw14.PlayerBalance'. -/
def playerBalanceCard : Claim7 := { stood := { row := playerBalanceRow, standIns := [], harness := (true, "7227c55144bc419780eb65c715099d15104b424c7d3e16f4dd47391665dc2007"), looks := true }, kinds := [], alts := [], laidByText := true, laidKinds := [.handle], laidTests := true, laidLooks := .later }
def PlayerBalanceCardSaid : Prop := Claim7.holds Tryd.pinned (.plain (OpenSpec.ofChange playerBalanceSpec)) playerBalanceCard

/-- THE TIED CARD OF 'partitalaw14.PlayerOrder'. -/
def playerOrderCard : Claim7 := { stood := { row := playerOrderRow, standIns := [], harness := (true, "7227c55144bc419780eb65c715099d15104b424c7d3e16f4dd47391665dc2007"), looks := true }, kinds := [], alts := [], laidByText := true, laidKinds := [.handle], laidTests := true, laidLooks := .later }
def PlayerOrderCardSaid : Prop := Claim7.holds Tryd.pinned (.plain (OpenSpec.ofChange playerOrderSpec)) playerOrderCard

/-- THE TIED CARD OF 'partitalaw14.PlayerApart'. -/
def playerApartCard : Claim7 := { stood := { row := playerApartRow, standIns := [], harness := (true, "7227c55144bc419780eb65c715099d15104b424c7d3e16f4dd47391665dc2007"), looks := true }, kinds := [], alts := [], laidByText := true, laidKinds := [.handle], laidTests := true, laidLooks := .later }
def PlayerApartCardSaid : Prop := Claim7.holds Tryd.pinned (.plain (OpenSpec.ofChange playerApartSpec)) playerApartCard

/-- THE SECOND FORM's CARD OF 'partitalaw14.PlayerCuts'. -/
def playerCutsUptoCard : Claim7 := { stood := { row := playerCutsUptoRow, standIns := [], harness := (true, "7227c55144bc419780eb65c715099d15104b424c7d3e16f4dd47391665dc2007"), looks := true }, kinds := [], alts := [], laidByText := true, laidKinds := [.handle], laidTests := true, laidLooks := .later }
def PlayerCutsUptoCardSaid : Prop := Claim7.holds Tryd.pinned (.plain (OpenSpec.upto playerCutsSpec)) playerCutsUptoCard

/-- THE SECOND FORM's CARD OF 'partitalaw14.PlayerThrough'. -/
def playerThroughUptoCard : Claim7 := { stood := { row := playerThroughUptoRow, standIns := [], harness := (true, "7227c55144bc419780eb65c715099d15104b424c7d3e16f4dd47391665dc2007"), looks := true }, kinds := [], alts := [], laidByText := true, laidKinds := [.handle], laidTests := true, laidLooks := .later }
def PlayerThroughUptoCardSaid : Prop := Claim7.holds Tryd.pinned (.plain (OpenSpec.upto playerThroughSpec)) playerThroughUptoCard

/-- THE SECOND FORM's CARD OF 'partitalaw14.PlayerLater'. -/
def playerLaterUptoCard : Claim7 := { stood := { row := playerLaterUptoRow, standIns := [], harness := (true, "7227c55144bc419780eb65c715099d15104b424c7d3e16f4dd47391665dc2007"), looks := true }, kinds := [], alts := [], laidByText := true, laidKinds := [.handle], laidTests := true, laidLooks := .later }
def PlayerLaterUptoCardSaid : Prop := Claim7.holds Tryd.pinned (.plain (OpenSpec.upto playerLaterSpec)) playerLaterUptoCard

/-- THE SECOND FORM's CARD OF 'partitalaw14.PlayerSpeeds'. -/
def playerSpeedsUptoCard : Claim7 := { stood := { row := playerSpeedsUptoRow, standIns := [], harness := (true, "7227c55144bc419780eb65c715099d15104b424c7d3e16f4dd47391665dc2007"), looks := true }, kinds := [], alts := [], laidByText := true, laidKinds := [.handle], laidTests := true, laidLooks := .later }
def PlayerSpeedsUptoCardSaid : Prop := Claim7.holds Tryd.pinned (.plain (OpenSpec.upto playerSpeedsSpec)) playerSpeedsUptoCard

/-- THE SECOND FORM's CARD OF 'partitalaw14.PlayerLoops'. -/
def playerLoopsUptoCard : Claim7 := { stood := { row := playerLoopsUptoRow, standIns := [], harness := (true, "7227c55144bc419780eb65c715099d15104b424c7d3e16f4dd47391665dc2007"), looks := true }, kinds := [], alts := [], laidByText := true, laidKinds := [.handle], laidTests := true, laidLooks := .later }
def PlayerLoopsUptoCardSaid : Prop := Claim7.holds Tryd.pinned (.plain (OpenSpec.upto playerLoopsSpec)) playerLoopsUptoCard

/-- THE SECOND FORM's CARD OF 'partitalaw14.PlayerBalance'. -/
def playerBalanceUptoCard : Claim7 := { stood := { row := playerBalanceUptoRow, standIns := [], harness := (true, "7227c55144bc419780eb65c715099d15104b424c7d3e16f4dd47391665dc2007"), looks := true }, kinds := [], alts := [], laidByText := true, laidKinds := [.handle], laidTests := true, laidLooks := .later }
def PlayerBalanceUptoCardSaid : Prop := Claim7.holds Tryd.pinned (.plain (OpenSpec.upto playerBalanceSpec)) playerBalanceUptoCard

/-- THE SECOND FORM's CARD OF 'partitalaw14.PlayerOrder'. -/
def playerOrderUptoCard : Claim7 := { stood := { row := playerOrderUptoRow, standIns := [], harness := (true, "7227c55144bc419780eb65c715099d15104b424c7d3e16f4dd47391665dc2007"), looks := true }, kinds := [], alts := [], laidByText := true, laidKinds := [.handle], laidTests := true, laidLooks := .later }
def PlayerOrderUptoCardSaid : Prop := Claim7.holds Tryd.pinned (.plain (OpenSpec.upto playerOrderSpec)) playerOrderUptoCard

/-- THE SECOND FORM's CARD OF 'partitalaw14.PlayerApart'. -/
def playerApartUptoCard : Claim7 := { stood := { row := playerApartUptoRow, standIns := [], harness := (true, "7227c55144bc419780eb65c715099d15104b424c7d3e16f4dd47391665dc2007"), looks := true }, kinds := [], alts := [], laidByText := true, laidKinds := [.handle], laidTests := true, laidLooks := .later }
def PlayerApartUptoCardSaid : Prop := Claim7.holds Tryd.pinned (.plain (OpenSpec.upto playerApartSpec)) playerApartUptoCard
end Rows
end Go.Proofs.YtkhclggkicnndaaDoor
