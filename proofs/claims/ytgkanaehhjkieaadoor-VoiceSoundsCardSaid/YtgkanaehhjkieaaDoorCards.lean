/-
  DERIVED. GIVEN WITH THE SEED: THE CARDS: each row of YtgkanaehhjkieaaDoorRows.lean that lists a variable, with what it lists TIED to the program's text (the seventh form; the later family's looks); each row that meets fmt, with fmt's text TOLD by the authors' own Lean function (tested against real Go, not proved from fmt's source: count such statements apart). THE CARD IS WHAT COUNTS. Prove the row's statement (the work); the ties are given (YtgkanaehhjkieaaDoorTie.lean); close each card by the builder's one call (the guide's Derived/Test/ToyasCard.lean, 'card_holds'). Laid BY PROGRAM, IN A SANDBOX (cutbox-door.mjs). By AI agents, Wed Nov 11 2026. No macro, syntax, notation, axiom, sorry.
-/
import Derived.Test.YtgkanaehhjkieaaDoorRows
import GoSem.ClaimSeven
namespace Go.Proofs.YtgkanaehhjkieaaDoor
namespace Rows

/-- THE TIED CARD OF 'partitalaw07.VoiceSounds'. -/
def voiceSoundsCard : Claim7 := { stood := { row := voiceSoundsRow, standIns := [], harness := (true, "7c5d1e20e5e004a36fde93d755687244870ba1d2b781f56fc53e18a01745c71c"), looks := false }, kinds := [], alts := [], laidByText := true, laidKinds := [.data, .data, .data, .data, .pinned], laidTests := true, laidLooks := .later }
def VoiceSoundsCardSaid : Prop := Claim7.holds Tryd.pinned (.plain (OpenSpec.ofChange voiceSoundsSpec)) voiceSoundsCard

/-- THE TIED CARD OF 'partitalaw07.VoiceJoins'. -/
def voiceJoinsCard : Claim7 := { stood := { row := voiceJoinsRow, standIns := [], harness := (true, "7c5d1e20e5e004a36fde93d755687244870ba1d2b781f56fc53e18a01745c71c"), looks := false }, kinds := [], alts := [], laidByText := true, laidKinds := [.data, .data, .data, .data, .pinned], laidTests := true, laidLooks := .later }
def VoiceJoinsCardSaid : Prop := Claim7.holds Tryd.pinned (.plain (OpenSpec.ofChange voiceJoinsSpec)) voiceJoinsCard

/-- THE TIED CARD OF 'partitalaw07.VoicePlaces'. -/
def voicePlacesCard : Claim7 := { stood := { row := voicePlacesRow, standIns := [], harness := (true, "7c5d1e20e5e004a36fde93d755687244870ba1d2b781f56fc53e18a01745c71c"), looks := false }, kinds := [], alts := [], laidByText := true, laidKinds := [.data, .data, .data, .data, .pinned], laidTests := true, laidLooks := .later }
def VoicePlacesCardSaid : Prop := Claim7.holds Tryd.pinned (.plain (OpenSpec.ofChange voicePlacesSpec)) voicePlacesCard

/-- THE TIED CARD OF 'partitalaw07.VoiceRests'. -/
def voiceRestsCard : Claim7 := { stood := { row := voiceRestsRow, standIns := [], harness := (true, "7c5d1e20e5e004a36fde93d755687244870ba1d2b781f56fc53e18a01745c71c"), looks := false }, kinds := [], alts := [], laidByText := true, laidKinds := [.data, .data, .data, .data, .pinned], laidTests := true, laidLooks := .later }
def VoiceRestsCardSaid : Prop := Claim7.holds Tryd.pinned (.plain (OpenSpec.ofChange voiceRestsSpec)) voiceRestsCard

/-- THE TIED CARD OF 'partitalaw07.VoiceTies'. -/
def voiceTiesCard : Claim7 := { stood := { row := voiceTiesRow, standIns := [], harness := (true, "7c5d1e20e5e004a36fde93d755687244870ba1d2b781f56fc53e18a01745c71c"), looks := false }, kinds := [], alts := [], laidByText := true, laidKinds := [.data, .data, .data, .data, .pinned], laidTests := true, laidLooks := .later }
def VoiceTiesCardSaid : Prop := Claim7.holds Tryd.pinned (.plain (OpenSpec.ofChange voiceTiesSpec)) voiceTiesCard

/-- THE TIED CARD OF 'partitalaw07.VoiceErrors'. -/
def voiceErrorsCard : Claim7 := { stood := { row := voiceErrorsRow, standIns := [], harness := (true, "7c5d1e20e5e004a36fde93d755687244870ba1d2b781f56fc53e18a01745c71c"), looks := false }, kinds := [], alts := [], laidByText := true, laidKinds := [.data, .data, .data, .data, .pinned], laidTests := true, laidLooks := .later }
def VoiceErrorsCardSaid : Prop := Claim7.holds Tryd.pinned (.plain (OpenSpec.ofChange voiceErrorsSpec)) voiceErrorsCard

/-- THE TIED CARD OF 'partitalaw07.VoiceSame'. -/
def voiceSameCard : Claim7 := { stood := { row := voiceSameRow, standIns := [], harness := (true, "7c5d1e20e5e004a36fde93d755687244870ba1d2b781f56fc53e18a01745c71c"), looks := false }, kinds := [], alts := [], laidByText := true, laidKinds := [.data, .data, .data, .data, .pinned], laidTests := true, laidLooks := .later }
def VoiceSameCardSaid : Prop := Claim7.holds Tryd.pinned (.plain (OpenSpec.ofChange voiceSameSpec)) voiceSameCard

/-- THE SECOND FORM's CARD OF 'partitalaw07.VoiceSounds'. -/
def voiceSoundsUptoCard : Claim7 := { stood := { row := voiceSoundsUptoRow, standIns := [], harness := (true, "7c5d1e20e5e004a36fde93d755687244870ba1d2b781f56fc53e18a01745c71c"), looks := false }, kinds := [], alts := [], laidByText := true, laidKinds := [.data, .data, .data, .data, .pinned], laidTests := true, laidLooks := .later }
def VoiceSoundsUptoCardSaid : Prop := Claim7.holds Tryd.pinned (.plain (OpenSpec.upto voiceSoundsSpec)) voiceSoundsUptoCard

/-- THE SECOND FORM's CARD OF 'partitalaw07.VoiceJoins'. -/
def voiceJoinsUptoCard : Claim7 := { stood := { row := voiceJoinsUptoRow, standIns := [], harness := (true, "7c5d1e20e5e004a36fde93d755687244870ba1d2b781f56fc53e18a01745c71c"), looks := false }, kinds := [], alts := [], laidByText := true, laidKinds := [.data, .data, .data, .data, .pinned], laidTests := true, laidLooks := .later }
def VoiceJoinsUptoCardSaid : Prop := Claim7.holds Tryd.pinned (.plain (OpenSpec.upto voiceJoinsSpec)) voiceJoinsUptoCard

/-- THE SECOND FORM's CARD OF 'partitalaw07.VoicePlaces'. -/
def voicePlacesUptoCard : Claim7 := { stood := { row := voicePlacesUptoRow, standIns := [], harness := (true, "7c5d1e20e5e004a36fde93d755687244870ba1d2b781f56fc53e18a01745c71c"), looks := false }, kinds := [], alts := [], laidByText := true, laidKinds := [.data, .data, .data, .data, .pinned], laidTests := true, laidLooks := .later }
def VoicePlacesUptoCardSaid : Prop := Claim7.holds Tryd.pinned (.plain (OpenSpec.upto voicePlacesSpec)) voicePlacesUptoCard

/-- THE SECOND FORM's CARD OF 'partitalaw07.VoiceRests'. -/
def voiceRestsUptoCard : Claim7 := { stood := { row := voiceRestsUptoRow, standIns := [], harness := (true, "7c5d1e20e5e004a36fde93d755687244870ba1d2b781f56fc53e18a01745c71c"), looks := false }, kinds := [], alts := [], laidByText := true, laidKinds := [.data, .data, .data, .data, .pinned], laidTests := true, laidLooks := .later }
def VoiceRestsUptoCardSaid : Prop := Claim7.holds Tryd.pinned (.plain (OpenSpec.upto voiceRestsSpec)) voiceRestsUptoCard

/-- THE SECOND FORM's CARD OF 'partitalaw07.VoiceTies'. -/
def voiceTiesUptoCard : Claim7 := { stood := { row := voiceTiesUptoRow, standIns := [], harness := (true, "7c5d1e20e5e004a36fde93d755687244870ba1d2b781f56fc53e18a01745c71c"), looks := false }, kinds := [], alts := [], laidByText := true, laidKinds := [.data, .data, .data, .data, .pinned], laidTests := true, laidLooks := .later }
def VoiceTiesUptoCardSaid : Prop := Claim7.holds Tryd.pinned (.plain (OpenSpec.upto voiceTiesSpec)) voiceTiesUptoCard

/-- THE SECOND FORM's CARD OF 'partitalaw07.VoiceErrors'. -/
def voiceErrorsUptoCard : Claim7 := { stood := { row := voiceErrorsUptoRow, standIns := [], harness := (true, "7c5d1e20e5e004a36fde93d755687244870ba1d2b781f56fc53e18a01745c71c"), looks := false }, kinds := [], alts := [], laidByText := true, laidKinds := [.data, .data, .data, .data, .pinned], laidTests := true, laidLooks := .later }
def VoiceErrorsUptoCardSaid : Prop := Claim7.holds Tryd.pinned (.plain (OpenSpec.upto voiceErrorsSpec)) voiceErrorsUptoCard

/-- THE SECOND FORM's CARD OF 'partitalaw07.VoiceSame'. -/
def voiceSameUptoCard : Claim7 := { stood := { row := voiceSameUptoRow, standIns := [], harness := (true, "7c5d1e20e5e004a36fde93d755687244870ba1d2b781f56fc53e18a01745c71c"), looks := false }, kinds := [], alts := [], laidByText := true, laidKinds := [.data, .data, .data, .data, .pinned], laidTests := true, laidLooks := .later }
def VoiceSameUptoCardSaid : Prop := Claim7.holds Tryd.pinned (.plain (OpenSpec.upto voiceSameSpec)) voiceSameUptoCard
end Rows
end Go.Proofs.YtgkanaehhjkieaaDoor
