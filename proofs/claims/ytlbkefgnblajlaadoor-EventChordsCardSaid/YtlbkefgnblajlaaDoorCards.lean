/-
  DERIVED. GIVEN WITH THE SEED: THE CARDS: each row of YtlbkefgnblajlaaDoorRows.lean that lists a variable, with what it lists TIED to the program's text (the seventh form; the later family's looks); each row that meets fmt, with fmt's text TOLD by the authors' own Lean function (tested against real Go, not proved from fmt's source: count such statements apart). THE CARD IS WHAT COUNTS. Prove the row's statement (the work); the ties are given (YtlbkefgnblajlaaDoorTie.lean); close each card by the builder's one call (the guide's Derived/Test/ToyasCard.lean, 'card_holds'). Laid BY PROGRAM, IN A SANDBOX (cutbox-door.mjs). By AI agents, Wed Nov 11 2026. No macro, syntax, notation, axiom, sorry.
-/
import Derived.Test.YtlbkefgnblajlaaDoorRows
import GoSem.ClaimSeven
namespace Go.Proofs.YtlbkefgnblajlaaDoor
namespace Rows

/-- THE TIED CARD OF 'partitalaw06.EventChords'. -/
def eventChordsCard : Claim7 := { stood := { row := eventChordsRow, standIns := [], harness := (true, "05f8080cd508d960eaa8421e0ebe10b4d265c2927e885090ab97dfbb070ae6f8"), looks := false }, kinds := [], alts := [], laidByText := true, laidKinds := [.data, .data, .data, .pinned], laidTests := true, laidLooks := .later }
def EventChordsCardSaid : Prop := Claim7.holds Tryd.pinned (.plain (OpenSpec.ofChange eventChordsSpec)) eventChordsCard

/-- THE TIED CARD OF 'partitalaw06.EventChordOne'. -/
def eventChordOneCard : Claim7 := { stood := { row := eventChordOneRow, standIns := [], harness := (true, "05f8080cd508d960eaa8421e0ebe10b4d265c2927e885090ab97dfbb070ae6f8"), looks := false }, kinds := [], alts := [], laidByText := true, laidKinds := [.data, .data, .data, .pinned], laidTests := true, laidLooks := .later }
def EventChordOneCardSaid : Prop := Claim7.holds Tryd.pinned (.plain (OpenSpec.ofChange eventChordOneSpec)) eventChordOneCard

/-- THE TIED CARD OF 'partitalaw06.EventChordTurn'. -/
def eventChordTurnCard : Claim7 := { stood := { row := eventChordTurnRow, standIns := [], harness := (true, "05f8080cd508d960eaa8421e0ebe10b4d265c2927e885090ab97dfbb070ae6f8"), looks := false }, kinds := [], alts := [], laidByText := true, laidKinds := [.data, .data, .data, .pinned], laidTests := true, laidLooks := .later }
def EventChordTurnCardSaid : Prop := Claim7.holds Tryd.pinned (.plain (OpenSpec.ofChange eventChordTurnSpec)) eventChordTurnCard

/-- THE TIED CARD OF 'partitalaw06.EventChordAll'. -/
def eventChordAllCard : Claim7 := { stood := { row := eventChordAllRow, standIns := [], harness := (true, "05f8080cd508d960eaa8421e0ebe10b4d265c2927e885090ab97dfbb070ae6f8"), looks := false }, kinds := [], alts := [], laidByText := true, laidKinds := [.data, .data, .data, .pinned], laidTests := true, laidLooks := .later }
def EventChordAllCardSaid : Prop := Claim7.holds Tryd.pinned (.plain (OpenSpec.ofChange eventChordAllSpec)) eventChordAllCard

/-- THE TIED CARD OF 'partitalaw06.EventChordUp'. -/
def eventChordUpCard : Claim7 := { stood := { row := eventChordUpRow, standIns := [], harness := (true, "05f8080cd508d960eaa8421e0ebe10b4d265c2927e885090ab97dfbb070ae6f8"), looks := false }, kinds := [], alts := [], laidByText := true, laidKinds := [.data, .data, .data, .pinned], laidTests := true, laidLooks := .later }
def EventChordUpCardSaid : Prop := Claim7.holds Tryd.pinned (.plain (OpenSpec.ofChange eventChordUpSpec)) eventChordUpCard

/-- THE SECOND FORM's CARD OF 'partitalaw06.EventChords'. -/
def eventChordsUptoCard : Claim7 := { stood := { row := eventChordsUptoRow, standIns := [], harness := (true, "05f8080cd508d960eaa8421e0ebe10b4d265c2927e885090ab97dfbb070ae6f8"), looks := false }, kinds := [], alts := [], laidByText := true, laidKinds := [.data, .data, .data, .pinned], laidTests := true, laidLooks := .later }
def EventChordsUptoCardSaid : Prop := Claim7.holds Tryd.pinned (.plain (OpenSpec.upto eventChordsSpec)) eventChordsUptoCard

/-- THE SECOND FORM's CARD OF 'partitalaw06.EventChordOne'. -/
def eventChordOneUptoCard : Claim7 := { stood := { row := eventChordOneUptoRow, standIns := [], harness := (true, "05f8080cd508d960eaa8421e0ebe10b4d265c2927e885090ab97dfbb070ae6f8"), looks := false }, kinds := [], alts := [], laidByText := true, laidKinds := [.data, .data, .data, .pinned], laidTests := true, laidLooks := .later }
def EventChordOneUptoCardSaid : Prop := Claim7.holds Tryd.pinned (.plain (OpenSpec.upto eventChordOneSpec)) eventChordOneUptoCard

/-- THE SECOND FORM's CARD OF 'partitalaw06.EventChordTurn'. -/
def eventChordTurnUptoCard : Claim7 := { stood := { row := eventChordTurnUptoRow, standIns := [], harness := (true, "05f8080cd508d960eaa8421e0ebe10b4d265c2927e885090ab97dfbb070ae6f8"), looks := false }, kinds := [], alts := [], laidByText := true, laidKinds := [.data, .data, .data, .pinned], laidTests := true, laidLooks := .later }
def EventChordTurnUptoCardSaid : Prop := Claim7.holds Tryd.pinned (.plain (OpenSpec.upto eventChordTurnSpec)) eventChordTurnUptoCard

/-- THE SECOND FORM's CARD OF 'partitalaw06.EventChordAll'. -/
def eventChordAllUptoCard : Claim7 := { stood := { row := eventChordAllUptoRow, standIns := [], harness := (true, "05f8080cd508d960eaa8421e0ebe10b4d265c2927e885090ab97dfbb070ae6f8"), looks := false }, kinds := [], alts := [], laidByText := true, laidKinds := [.data, .data, .data, .pinned], laidTests := true, laidLooks := .later }
def EventChordAllUptoCardSaid : Prop := Claim7.holds Tryd.pinned (.plain (OpenSpec.upto eventChordAllSpec)) eventChordAllUptoCard

/-- THE SECOND FORM's CARD OF 'partitalaw06.EventChordUp'. -/
def eventChordUpUptoCard : Claim7 := { stood := { row := eventChordUpUptoRow, standIns := [], harness := (true, "05f8080cd508d960eaa8421e0ebe10b4d265c2927e885090ab97dfbb070ae6f8"), looks := false }, kinds := [], alts := [], laidByText := true, laidKinds := [.data, .data, .data, .pinned], laidTests := true, laidLooks := .later }
def EventChordUpUptoCardSaid : Prop := Claim7.holds Tryd.pinned (.plain (OpenSpec.upto eventChordUpSpec)) eventChordUpUptoCard
end Rows
end Go.Proofs.YtlbkefgnblajlaaDoor
