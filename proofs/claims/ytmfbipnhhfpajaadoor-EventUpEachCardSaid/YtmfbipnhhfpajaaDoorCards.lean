/-
  DERIVED. GIVEN WITH THE SEED: THE CARDS: each row of YtmfbipnhhfpajaaDoorRows.lean that lists a variable, with what it lists TIED to the program's text (the seventh form; the later family's looks); each row that meets fmt, with fmt's text TOLD by the authors' own Lean function (tested against real Go, not proved from fmt's source: count such statements apart). THE CARD IS WHAT COUNTS. Prove the row's statement (the work); the ties are given (YtmfbipnhhfpajaaDoorTie.lean); close each card by the builder's one call (the guide's Derived/Test/ToyasCard.lean, 'card_holds'). Laid BY PROGRAM, IN A SANDBOX (cutbox-door.mjs). By AI agents, Wed Nov 11 2026. No macro, syntax, notation, axiom, sorry.
-/
import Derived.Test.YtmfbipnhhfpajaaDoorRows
import GoSem.ClaimSeven
namespace Go.Proofs.YtmfbipnhhfpajaaDoor
namespace Rows

/-- THE TIED CARD OF 'partitalaw06.EventSames'. -/
def eventSamesCard : Claim7 := { stood := { row := eventSamesRow, standIns := [], harness := (true, "75a2f465e2f444f65b61728636622f9b371610ee700bbb0590ef2c3b146e9273"), looks := false }, kinds := [], alts := [], laidByText := true, laidKinds := [.data, .data, .data, .pinned], laidTests := true, laidLooks := .later }
def EventSamesCardSaid : Prop := Claim7.holds Tryd.pinned (.plain (OpenSpec.ofChange eventSamesSpec)) eventSamesCard

/-- THE TIED CARD OF 'partitalaw06.EventUps'. -/
def eventUpsCard : Claim7 := { stood := { row := eventUpsRow, standIns := [], harness := (true, "75a2f465e2f444f65b61728636622f9b371610ee700bbb0590ef2c3b146e9273"), looks := false }, kinds := [], alts := [], laidByText := true, laidKinds := [.data, .data, .data, .pinned], laidTests := true, laidLooks := .later }
def EventUpsCardSaid : Prop := Claim7.holds Tryd.pinned (.plain (OpenSpec.ofChange eventUpsSpec)) eventUpsCard

/-- THE TIED CARD OF 'partitalaw06.EventChords'. -/
def eventChordsCard : Claim7 := { stood := { row := eventChordsRow, standIns := [], harness := (true, "75a2f465e2f444f65b61728636622f9b371610ee700bbb0590ef2c3b146e9273"), looks := false }, kinds := [], alts := [], laidByText := true, laidKinds := [.data, .data, .data, .pinned], laidTests := true, laidLooks := .later }
def EventChordsCardSaid : Prop := Claim7.holds Tryd.pinned (.plain (OpenSpec.ofChange eventChordsSpec)) eventChordsCard

/-- THE TIED CARD OF 'partitalaw06.EventUpBack'. -/
def eventUpBackCard : Claim7 := { stood := { row := eventUpBackRow, standIns := [], harness := (true, "75a2f465e2f444f65b61728636622f9b371610ee700bbb0590ef2c3b146e9273"), looks := false }, kinds := [], alts := [], laidByText := true, laidKinds := [.data, .data, .data, .pinned], laidTests := true, laidLooks := .later }
def EventUpBackCardSaid : Prop := Claim7.holds Tryd.pinned (.plain (OpenSpec.ofChange eventUpBackSpec)) eventUpBackCard

/-- THE TIED CARD OF 'partitalaw06.EventUpEach'. -/
def eventUpEachCard : Claim7 := { stood := { row := eventUpEachRow, standIns := [], harness := (true, "75a2f465e2f444f65b61728636622f9b371610ee700bbb0590ef2c3b146e9273"), looks := false }, kinds := [], alts := [], laidByText := true, laidKinds := [.data, .data, .data, .pinned], laidTests := true, laidLooks := .later }
def EventUpEachCardSaid : Prop := Claim7.holds Tryd.pinned (.plain (OpenSpec.ofChange eventUpEachSpec)) eventUpEachCard

/-- THE TIED CARD OF 'partitalaw06.EventChordOne'. -/
def eventChordOneCard : Claim7 := { stood := { row := eventChordOneRow, standIns := [], harness := (true, "75a2f465e2f444f65b61728636622f9b371610ee700bbb0590ef2c3b146e9273"), looks := false }, kinds := [], alts := [], laidByText := true, laidKinds := [.data, .data, .data, .pinned], laidTests := true, laidLooks := .later }
def EventChordOneCardSaid : Prop := Claim7.holds Tryd.pinned (.plain (OpenSpec.ofChange eventChordOneSpec)) eventChordOneCard

/-- THE TIED CARD OF 'partitalaw06.EventChordTurn'. -/
def eventChordTurnCard : Claim7 := { stood := { row := eventChordTurnRow, standIns := [], harness := (true, "75a2f465e2f444f65b61728636622f9b371610ee700bbb0590ef2c3b146e9273"), looks := false }, kinds := [], alts := [], laidByText := true, laidKinds := [.data, .data, .data, .pinned], laidTests := true, laidLooks := .later }
def EventChordTurnCardSaid : Prop := Claim7.holds Tryd.pinned (.plain (OpenSpec.ofChange eventChordTurnSpec)) eventChordTurnCard

/-- THE TIED CARD OF 'partitalaw06.EventChordAll'. -/
def eventChordAllCard : Claim7 := { stood := { row := eventChordAllRow, standIns := [], harness := (true, "75a2f465e2f444f65b61728636622f9b371610ee700bbb0590ef2c3b146e9273"), looks := false }, kinds := [], alts := [], laidByText := true, laidKinds := [.data, .data, .data, .pinned], laidTests := true, laidLooks := .later }
def EventChordAllCardSaid : Prop := Claim7.holds Tryd.pinned (.plain (OpenSpec.ofChange eventChordAllSpec)) eventChordAllCard

/-- THE TIED CARD OF 'partitalaw06.EventChordUp'. -/
def eventChordUpCard : Claim7 := { stood := { row := eventChordUpRow, standIns := [], harness := (true, "75a2f465e2f444f65b61728636622f9b371610ee700bbb0590ef2c3b146e9273"), looks := false }, kinds := [], alts := [], laidByText := true, laidKinds := [.data, .data, .data, .pinned], laidTests := true, laidLooks := .later }
def EventChordUpCardSaid : Prop := Claim7.holds Tryd.pinned (.plain (OpenSpec.ofChange eventChordUpSpec)) eventChordUpCard

/-- THE TIED CARD OF 'partitalaw06.EventLengths'. -/
def eventLengthsCard : Claim7 := { stood := { row := eventLengthsRow, standIns := [], harness := (true, "75a2f465e2f444f65b61728636622f9b371610ee700bbb0590ef2c3b146e9273"), looks := false }, kinds := [], alts := [], laidByText := true, laidKinds := [.data, .data, .data, .pinned], laidTests := true, laidLooks := .later }
def EventLengthsCardSaid : Prop := Claim7.holds Tryd.pinned (.plain (OpenSpec.ofChange eventLengthsSpec)) eventLengthsCard

/-- THE TIED CARD OF 'partitalaw06.EventWords'. -/
def eventWordsCard : Claim7 := { stood := { row := eventWordsRow, standIns := [], harness := (true, "75a2f465e2f444f65b61728636622f9b371610ee700bbb0590ef2c3b146e9273"), looks := false }, kinds := [], alts := [], laidByText := true, laidKinds := [.data, .data, .data, .pinned], laidTests := true, laidLooks := .later }
def EventWordsCardSaid : Prop := Claim7.holds Tryd.pinned (.plain (OpenSpec.ofChange eventWordsSpec)) eventWordsCard

/-- THE SECOND FORM's CARD OF 'partitalaw06.EventSames'. -/
def eventSamesUptoCard : Claim7 := { stood := { row := eventSamesUptoRow, standIns := [], harness := (true, "75a2f465e2f444f65b61728636622f9b371610ee700bbb0590ef2c3b146e9273"), looks := false }, kinds := [], alts := [], laidByText := true, laidKinds := [.data, .data, .data, .pinned], laidTests := true, laidLooks := .later }
def EventSamesUptoCardSaid : Prop := Claim7.holds Tryd.pinned (.plain (OpenSpec.upto eventSamesSpec)) eventSamesUptoCard

/-- THE SECOND FORM's CARD OF 'partitalaw06.EventUps'. -/
def eventUpsUptoCard : Claim7 := { stood := { row := eventUpsUptoRow, standIns := [], harness := (true, "75a2f465e2f444f65b61728636622f9b371610ee700bbb0590ef2c3b146e9273"), looks := false }, kinds := [], alts := [], laidByText := true, laidKinds := [.data, .data, .data, .pinned], laidTests := true, laidLooks := .later }
def EventUpsUptoCardSaid : Prop := Claim7.holds Tryd.pinned (.plain (OpenSpec.upto eventUpsSpec)) eventUpsUptoCard

/-- THE SECOND FORM's CARD OF 'partitalaw06.EventChords'. -/
def eventChordsUptoCard : Claim7 := { stood := { row := eventChordsUptoRow, standIns := [], harness := (true, "75a2f465e2f444f65b61728636622f9b371610ee700bbb0590ef2c3b146e9273"), looks := false }, kinds := [], alts := [], laidByText := true, laidKinds := [.data, .data, .data, .pinned], laidTests := true, laidLooks := .later }
def EventChordsUptoCardSaid : Prop := Claim7.holds Tryd.pinned (.plain (OpenSpec.upto eventChordsSpec)) eventChordsUptoCard

/-- THE SECOND FORM's CARD OF 'partitalaw06.EventUpBack'. -/
def eventUpBackUptoCard : Claim7 := { stood := { row := eventUpBackUptoRow, standIns := [], harness := (true, "75a2f465e2f444f65b61728636622f9b371610ee700bbb0590ef2c3b146e9273"), looks := false }, kinds := [], alts := [], laidByText := true, laidKinds := [.data, .data, .data, .pinned], laidTests := true, laidLooks := .later }
def EventUpBackUptoCardSaid : Prop := Claim7.holds Tryd.pinned (.plain (OpenSpec.upto eventUpBackSpec)) eventUpBackUptoCard

/-- THE SECOND FORM's CARD OF 'partitalaw06.EventUpEach'. -/
def eventUpEachUptoCard : Claim7 := { stood := { row := eventUpEachUptoRow, standIns := [], harness := (true, "75a2f465e2f444f65b61728636622f9b371610ee700bbb0590ef2c3b146e9273"), looks := false }, kinds := [], alts := [], laidByText := true, laidKinds := [.data, .data, .data, .pinned], laidTests := true, laidLooks := .later }
def EventUpEachUptoCardSaid : Prop := Claim7.holds Tryd.pinned (.plain (OpenSpec.upto eventUpEachSpec)) eventUpEachUptoCard

/-- THE SECOND FORM's CARD OF 'partitalaw06.EventChordOne'. -/
def eventChordOneUptoCard : Claim7 := { stood := { row := eventChordOneUptoRow, standIns := [], harness := (true, "75a2f465e2f444f65b61728636622f9b371610ee700bbb0590ef2c3b146e9273"), looks := false }, kinds := [], alts := [], laidByText := true, laidKinds := [.data, .data, .data, .pinned], laidTests := true, laidLooks := .later }
def EventChordOneUptoCardSaid : Prop := Claim7.holds Tryd.pinned (.plain (OpenSpec.upto eventChordOneSpec)) eventChordOneUptoCard

/-- THE SECOND FORM's CARD OF 'partitalaw06.EventChordTurn'. -/
def eventChordTurnUptoCard : Claim7 := { stood := { row := eventChordTurnUptoRow, standIns := [], harness := (true, "75a2f465e2f444f65b61728636622f9b371610ee700bbb0590ef2c3b146e9273"), looks := false }, kinds := [], alts := [], laidByText := true, laidKinds := [.data, .data, .data, .pinned], laidTests := true, laidLooks := .later }
def EventChordTurnUptoCardSaid : Prop := Claim7.holds Tryd.pinned (.plain (OpenSpec.upto eventChordTurnSpec)) eventChordTurnUptoCard

/-- THE SECOND FORM's CARD OF 'partitalaw06.EventChordAll'. -/
def eventChordAllUptoCard : Claim7 := { stood := { row := eventChordAllUptoRow, standIns := [], harness := (true, "75a2f465e2f444f65b61728636622f9b371610ee700bbb0590ef2c3b146e9273"), looks := false }, kinds := [], alts := [], laidByText := true, laidKinds := [.data, .data, .data, .pinned], laidTests := true, laidLooks := .later }
def EventChordAllUptoCardSaid : Prop := Claim7.holds Tryd.pinned (.plain (OpenSpec.upto eventChordAllSpec)) eventChordAllUptoCard

/-- THE SECOND FORM's CARD OF 'partitalaw06.EventChordUp'. -/
def eventChordUpUptoCard : Claim7 := { stood := { row := eventChordUpUptoRow, standIns := [], harness := (true, "75a2f465e2f444f65b61728636622f9b371610ee700bbb0590ef2c3b146e9273"), looks := false }, kinds := [], alts := [], laidByText := true, laidKinds := [.data, .data, .data, .pinned], laidTests := true, laidLooks := .later }
def EventChordUpUptoCardSaid : Prop := Claim7.holds Tryd.pinned (.plain (OpenSpec.upto eventChordUpSpec)) eventChordUpUptoCard

/-- THE SECOND FORM's CARD OF 'partitalaw06.EventLengths'. -/
def eventLengthsUptoCard : Claim7 := { stood := { row := eventLengthsUptoRow, standIns := [], harness := (true, "75a2f465e2f444f65b61728636622f9b371610ee700bbb0590ef2c3b146e9273"), looks := false }, kinds := [], alts := [], laidByText := true, laidKinds := [.data, .data, .data, .pinned], laidTests := true, laidLooks := .later }
def EventLengthsUptoCardSaid : Prop := Claim7.holds Tryd.pinned (.plain (OpenSpec.upto eventLengthsSpec)) eventLengthsUptoCard

/-- THE SECOND FORM's CARD OF 'partitalaw06.EventWords'. -/
def eventWordsUptoCard : Claim7 := { stood := { row := eventWordsUptoRow, standIns := [], harness := (true, "75a2f465e2f444f65b61728636622f9b371610ee700bbb0590ef2c3b146e9273"), looks := false }, kinds := [], alts := [], laidByText := true, laidKinds := [.data, .data, .data, .pinned], laidTests := true, laidLooks := .later }
def EventWordsUptoCardSaid : Prop := Claim7.holds Tryd.pinned (.plain (OpenSpec.upto eventWordsSpec)) eventWordsUptoCard
end Rows
end Go.Proofs.YtmfbipnhhfpajaaDoor
