/-
  NARROWER THAN 'FOR EVERY INPUT', by the rows' own cells (each row's printed sentence says how): VoiceSounds: laid · VoiceJoins: laid · VoicePlaces: laid · VoiceRests: laid · VoiceTies: laid · VoiceErrors: laid · VoiceSame: laid.
  DERIVED. THE GIVEN ROWS OF THIS SEAT. 7 by the template 'for every input the law returns true; each argument reads behind the call as it read before'; 0 by the template 'total and deterministic' (their statements: YtgkanaehhjkieaaDoorTotals.lean).
  GIVEN WITH THE SEED: the statements are not yours to turn. If you find one false, say at which input.
  Laid BY PROGRAM, IN A SANDBOX (cutbox-rows.mjs): the forced cells as the released guide's own fill.sh prints them over the translation 06a36849d3e0f05e… (all of the seat's roots in one cut). By AI agents, Wed Nov 11 2026. No macro, syntax, notation, axiom, sorry.
-/
import Derived.Test.YtgkanaehhjkieaaDoorChecked
import GoSem.PinnedTables
import GoSem.Claim
import GoSem.ClaimJoined
import GoSem.ClaimMapViews
import Derived.JoinedTies
import Derived.KernelRfl
namespace Go.Proofs.YtgkanaehhjkieaaDoor
/- THE CELL 'sum', in the pinned program and in every row, IS THE sha256 OF THE DUMP (.gsa) THAT YtgkanaehhjkieaaDoorProg.lean LOADS. Nothing in Lean hashes anything: it is a label: what it is worth is what the hold of that sum in a sandbox is worth. -/
noncomputable def Tryd.pinned : Pinned := { name := "ytgkanaehhjkieaadoor", sum := "06a36849d3e0f05e2583ec7f6546c0b5dfad472aff06166e9dfda89b50bfbaef", checked := Tryd.checked }
namespace Rows
def none {H : Type} : Left H := { results := [], args := [] }

/- WHAT THE LISTED PACKAGE-LEVEL VARIABLES READ AS WHEN THE CALL BEGINS. Each datum BY PROGRAM (the guide's laid-datum.mjs) off the statement by which the dump's own 'gosem.cut.vars' lays the variable. In a bare row this is a premise. The card (YtgkanaehhjkieaaDoorCards.lean) ties it to the program's text. -/
def laid_unicode_utf8_acceptRanges {H : Type} : DataW H := .agg [.agg [.lit (.int .u8 128), .lit (.int .u8 191)], .agg [.lit (.int .u8 160), .lit (.int .u8 191)], .agg [.lit (.int .u8 128), .lit (.int .u8 159)], .agg [.lit (.int .u8 144), .lit (.int .u8 191)], .agg [.lit (.int .u8 128), .lit (.int .u8 143)], .agg [.lit (.int .u8 0), .lit (.int .u8 0)], .agg [.lit (.int .u8 0), .lit (.int .u8 0)], .agg [.lit (.int .u8 0), .lit (.int .u8 0)], .agg [.lit (.int .u8 0), .lit (.int .u8 0)], .agg [.lit (.int .u8 0), .lit (.int .u8 0)], .agg [.lit (.int .u8 0), .lit (.int .u8 0)], .agg [.lit (.int .u8 0), .lit (.int .u8 0)], .agg [.lit (.int .u8 0), .lit (.int .u8 0)], .agg [.lit (.int .u8 0), .lit (.int .u8 0)], .agg [.lit (.int .u8 0), .lit (.int .u8 0)], .agg [.lit (.int .u8 0), .lit (.int .u8 0)]]
def laid_partita_pitch_halfTones {H : Type} : DataW H := .agg [.lit (.int .i64 0), .lit (.int .i64 2), .lit (.int .i64 4), .lit (.int .i64 5), .lit (.int .i64 7), .lit (.int .i64 9), .lit (.int .i64 11)]
def laid_partita_value_dotted {H : Type} : DataW H := .agg [.agg [.lit (.int .i64 1), .lit (.int .i64 1)], .agg [.lit (.int .i64 3), .lit (.int .i64 2)], .agg [.lit (.int .i64 7), .lit (.int .i64 4)]]
def laid_partita_value_kinds {H : Type} : DataW H := .agg [.agg [.lit (.int .i64 0), .lit (.int .i64 0), .lit (.int .i64 0), .lit (.int .i64 0)], .agg [.lit (.int .i64 0), .lit (.int .i64 0), .lit (.int .i64 3), .lit (.int .i64 2)], .agg [.lit (.int .i64 0), .lit (.int .i64 0), .lit (.int .i64 5), .lit (.int .i64 4)], .agg [.lit (.int .i64 0), .lit (.int .i64 0), .lit (.int .i64 7), .lit (.int .i64 4)]]
/-- One of Go's own tables, pinned by name: the form's constant. -/
def laid_unicode_utf8_first : DataW Unit := Go.Pinned.utf8First

/-- 'partitalaw07.VoiceSounds': WHATEVER THE INPUT: true; the input reads as it did. -/
def voiceSoundsSpec : ChangeSpec := { name := "voiceSounds", fn := fun _ => fun
  | [d] => { results := [.lit (.bool true)], args := [d] }
  | _ => none }
def voiceSoundsRow : OpenClaim := { program := "ytgkanaehhjkieaadoor", sum := "06a36849d3e0f05e2583ec7f6546c0b5dfad472aff06166e9dfda89b50bfbaef", func := "partita/partitalaw07.VoiceSounds", spec := "voiceSounds", unfollowed := true, recurses := true, named := ["unicode/utf8.first", "unicode/utf8.acceptRanges", "partita/pitch.halfTones", "partita/value.dotted", "partita/value.kinds"], plainKeys := false, apart := false, laid := [("unicode/utf8.acceptRanges", laid_unicode_utf8_acceptRanges), ("partita/pitch.halfTones", laid_partita_pitch_halfTones), ("partita/value.dotted", laid_partita_value_dotted), ("partita/value.kinds", laid_partita_value_kinds), ("unicode/utf8.first", laid_unicode_utf8_first)] }
def VoiceSoundsSaid : Prop := voiceSoundsRow.holds Tryd.pinned (OpenSpec.ofChange voiceSoundsSpec)

/-- ITS FALSE NEIGHBOUR: 'it returns false'. Refute it at one input. -/
def voiceSoundsWrong : ChangeSpec := { name := "voiceSounds", fn := fun _ => fun
  | [d] => { results := [.lit (.bool false)], args := [d] }
  | _ => none }
def VoiceSoundsWrongFalsely : Prop := voiceSoundsRow.holds Tryd.pinned (OpenSpec.ofChange voiceSoundsWrong)

/-- 'partitalaw07.VoiceJoins': WHATEVER THE INPUT: true; the input reads as it did. -/
def voiceJoinsSpec : ChangeSpec := { name := "voiceJoins", fn := fun _ => fun
  | [d1, d2] => { results := [.lit (.bool true)], args := [d1, d2] }
  | _ => none }
def voiceJoinsRow : OpenClaim := { program := "ytgkanaehhjkieaadoor", sum := "06a36849d3e0f05e2583ec7f6546c0b5dfad472aff06166e9dfda89b50bfbaef", func := "partita/partitalaw07.VoiceJoins", spec := "voiceJoins", unfollowed := true, recurses := true, named := ["unicode/utf8.first", "unicode/utf8.acceptRanges", "partita/pitch.halfTones", "partita/value.dotted", "partita/value.kinds"], plainKeys := false, apart := false, laid := [("unicode/utf8.acceptRanges", laid_unicode_utf8_acceptRanges), ("partita/pitch.halfTones", laid_partita_pitch_halfTones), ("partita/value.dotted", laid_partita_value_dotted), ("partita/value.kinds", laid_partita_value_kinds), ("unicode/utf8.first", laid_unicode_utf8_first)] }
def VoiceJoinsSaid : Prop := voiceJoinsRow.holds Tryd.pinned (OpenSpec.ofChange voiceJoinsSpec)

/-- ITS FALSE NEIGHBOUR: 'it returns false'. Refute it at one input. -/
def voiceJoinsWrong : ChangeSpec := { name := "voiceJoins", fn := fun _ => fun
  | [d1, d2] => { results := [.lit (.bool false)], args := [d1, d2] }
  | _ => none }
def VoiceJoinsWrongFalsely : Prop := voiceJoinsRow.holds Tryd.pinned (OpenSpec.ofChange voiceJoinsWrong)

/-- 'partitalaw07.VoicePlaces': WHATEVER THE INPUT: true; the input reads as it did. -/
def voicePlacesSpec : ChangeSpec := { name := "voicePlaces", fn := fun _ => fun
  | [d1, d2] => { results := [.lit (.bool true)], args := [d1, d2] }
  | _ => none }
def voicePlacesRow : OpenClaim := { program := "ytgkanaehhjkieaadoor", sum := "06a36849d3e0f05e2583ec7f6546c0b5dfad472aff06166e9dfda89b50bfbaef", func := "partita/partitalaw07.VoicePlaces", spec := "voicePlaces", unfollowed := true, recurses := true, named := ["unicode/utf8.first", "unicode/utf8.acceptRanges", "partita/pitch.halfTones", "partita/value.dotted", "partita/value.kinds"], plainKeys := false, apart := false, laid := [("unicode/utf8.acceptRanges", laid_unicode_utf8_acceptRanges), ("partita/pitch.halfTones", laid_partita_pitch_halfTones), ("partita/value.dotted", laid_partita_value_dotted), ("partita/value.kinds", laid_partita_value_kinds), ("unicode/utf8.first", laid_unicode_utf8_first)] }
def VoicePlacesSaid : Prop := voicePlacesRow.holds Tryd.pinned (OpenSpec.ofChange voicePlacesSpec)

/-- ITS FALSE NEIGHBOUR: 'it returns false'. Refute it at one input. -/
def voicePlacesWrong : ChangeSpec := { name := "voicePlaces", fn := fun _ => fun
  | [d1, d2] => { results := [.lit (.bool false)], args := [d1, d2] }
  | _ => none }
def VoicePlacesWrongFalsely : Prop := voicePlacesRow.holds Tryd.pinned (OpenSpec.ofChange voicePlacesWrong)

/-- 'partitalaw07.VoiceRests': WHATEVER THE INPUT: true; the input reads as it did. -/
def voiceRestsSpec : ChangeSpec := { name := "voiceRests", fn := fun _ => fun
  | [d1, d2] => { results := [.lit (.bool true)], args := [d1, d2] }
  | _ => none }
def voiceRestsRow : OpenClaim := { program := "ytgkanaehhjkieaadoor", sum := "06a36849d3e0f05e2583ec7f6546c0b5dfad472aff06166e9dfda89b50bfbaef", func := "partita/partitalaw07.VoiceRests", spec := "voiceRests", unfollowed := true, recurses := true, named := ["unicode/utf8.first", "unicode/utf8.acceptRanges", "partita/pitch.halfTones", "partita/value.dotted", "partita/value.kinds"], plainKeys := false, apart := false, laid := [("unicode/utf8.acceptRanges", laid_unicode_utf8_acceptRanges), ("partita/pitch.halfTones", laid_partita_pitch_halfTones), ("partita/value.dotted", laid_partita_value_dotted), ("partita/value.kinds", laid_partita_value_kinds), ("unicode/utf8.first", laid_unicode_utf8_first)] }
def VoiceRestsSaid : Prop := voiceRestsRow.holds Tryd.pinned (OpenSpec.ofChange voiceRestsSpec)

/-- ITS FALSE NEIGHBOUR: 'it returns false'. Refute it at one input. -/
def voiceRestsWrong : ChangeSpec := { name := "voiceRests", fn := fun _ => fun
  | [d1, d2] => { results := [.lit (.bool false)], args := [d1, d2] }
  | _ => none }
def VoiceRestsWrongFalsely : Prop := voiceRestsRow.holds Tryd.pinned (OpenSpec.ofChange voiceRestsWrong)

/-- 'partitalaw07.VoiceTies': WHATEVER THE INPUT: true; the input reads as it did. -/
def voiceTiesSpec : ChangeSpec := { name := "voiceTies", fn := fun _ => fun
  | [d1, d2] => { results := [.lit (.bool true)], args := [d1, d2] }
  | _ => none }
def voiceTiesRow : OpenClaim := { program := "ytgkanaehhjkieaadoor", sum := "06a36849d3e0f05e2583ec7f6546c0b5dfad472aff06166e9dfda89b50bfbaef", func := "partita/partitalaw07.VoiceTies", spec := "voiceTies", unfollowed := true, recurses := true, named := ["unicode/utf8.first", "unicode/utf8.acceptRanges", "partita/pitch.halfTones", "partita/value.dotted", "partita/value.kinds"], plainKeys := false, apart := false, laid := [("unicode/utf8.acceptRanges", laid_unicode_utf8_acceptRanges), ("partita/pitch.halfTones", laid_partita_pitch_halfTones), ("partita/value.dotted", laid_partita_value_dotted), ("partita/value.kinds", laid_partita_value_kinds), ("unicode/utf8.first", laid_unicode_utf8_first)] }
def VoiceTiesSaid : Prop := voiceTiesRow.holds Tryd.pinned (OpenSpec.ofChange voiceTiesSpec)

/-- ITS FALSE NEIGHBOUR: 'it returns false'. Refute it at one input. -/
def voiceTiesWrong : ChangeSpec := { name := "voiceTies", fn := fun _ => fun
  | [d1, d2] => { results := [.lit (.bool false)], args := [d1, d2] }
  | _ => none }
def VoiceTiesWrongFalsely : Prop := voiceTiesRow.holds Tryd.pinned (OpenSpec.ofChange voiceTiesWrong)

/-- 'partitalaw07.VoiceErrors': WHATEVER THE INPUT: true; the input reads as it did. -/
def voiceErrorsSpec : ChangeSpec := { name := "voiceErrors", fn := fun _ => fun
  | [d1, d2, d3] => { results := [.lit (.bool true)], args := [d1, d2, d3] }
  | _ => none }
def voiceErrorsRow : OpenClaim := { program := "ytgkanaehhjkieaadoor", sum := "06a36849d3e0f05e2583ec7f6546c0b5dfad472aff06166e9dfda89b50bfbaef", func := "partita/partitalaw07.VoiceErrors", spec := "voiceErrors", unfollowed := true, recurses := true, named := ["unicode/utf8.first", "unicode/utf8.acceptRanges", "partita/pitch.halfTones", "partita/value.dotted", "partita/value.kinds"], plainKeys := false, apart := false, laid := [("unicode/utf8.acceptRanges", laid_unicode_utf8_acceptRanges), ("partita/pitch.halfTones", laid_partita_pitch_halfTones), ("partita/value.dotted", laid_partita_value_dotted), ("partita/value.kinds", laid_partita_value_kinds), ("unicode/utf8.first", laid_unicode_utf8_first)] }
def VoiceErrorsSaid : Prop := voiceErrorsRow.holds Tryd.pinned (OpenSpec.ofChange voiceErrorsSpec)

/-- ITS FALSE NEIGHBOUR: 'it returns false'. Refute it at one input. -/
def voiceErrorsWrong : ChangeSpec := { name := "voiceErrors", fn := fun _ => fun
  | [d1, d2, d3] => { results := [.lit (.bool false)], args := [d1, d2, d3] }
  | _ => none }
def VoiceErrorsWrongFalsely : Prop := voiceErrorsRow.holds Tryd.pinned (OpenSpec.ofChange voiceErrorsWrong)

/-- 'partitalaw07.VoiceSame': WHATEVER THE INPUT: true; the input reads as it did. -/
def voiceSameSpec : ChangeSpec := { name := "voiceSame", fn := fun _ => fun
  | [d1, d2, d3] => { results := [.lit (.bool true)], args := [d1, d2, d3] }
  | _ => none }
def voiceSameRow : OpenClaim := { program := "ytgkanaehhjkieaadoor", sum := "06a36849d3e0f05e2583ec7f6546c0b5dfad472aff06166e9dfda89b50bfbaef", func := "partita/partitalaw07.VoiceSame", spec := "voiceSame", unfollowed := true, recurses := true, named := ["unicode/utf8.first", "unicode/utf8.acceptRanges", "partita/pitch.halfTones", "partita/value.dotted", "partita/value.kinds"], plainKeys := false, apart := false, laid := [("unicode/utf8.acceptRanges", laid_unicode_utf8_acceptRanges), ("partita/pitch.halfTones", laid_partita_pitch_halfTones), ("partita/value.dotted", laid_partita_value_dotted), ("partita/value.kinds", laid_partita_value_kinds), ("unicode/utf8.first", laid_unicode_utf8_first)] }
def VoiceSameSaid : Prop := voiceSameRow.holds Tryd.pinned (OpenSpec.ofChange voiceSameSpec)

/-- ITS FALSE NEIGHBOUR: 'it returns false'. Refute it at one input. -/
def voiceSameWrong : ChangeSpec := { name := "voiceSame", fn := fun _ => fun
  | [d1, d2, d3] => { results := [.lit (.bool false)], args := [d1, d2, d3] }
  | _ => none }
def VoiceSameWrongFalsely : Prop := voiceSameRow.holds Tryd.pinned (OpenSpec.ofChange voiceSameWrong)

/- THE SECOND FORM. 'bulk': how many values and letters a reading holds, each counted each time it is reached (what is shared counts as often as it is met; a slice's spare places count too). A statement '..UptoSaid' is the law's where the arguments, and the package variables that the reading takes, are together of bulk at most 1048576: NARROWER than '..Said'. Prove '..Said' where nothing that the law and all that it calls make is longer than what came in: it says more and counts as full. Else prove '..UptoSaid'. A law counts once. -/
mutual
def uptoBulk {H : Type} : DataW H → Nat
  | .lit (.string bytes) => bytes.length + 1
  | .lit _ => 1
  | .nil => 1
  | .ptr d => uptoBulk d + 1
  | .slice elems spare => uptoBulkAll elems + uptoBulkAll spare + 1
  | .agg parts => uptoBulkAll parts + 1
  | .iface _ d => uptoBulk d + 1
  | .map entries => uptoBulkEntries entries + 1
  | .held _ => 1
def uptoBulkAll {H : Type} : List (DataW H) → Nat
  | [] => 0
  | d :: r => uptoBulk d + uptoBulkAll r
def uptoBulkEntries {H : Type} : List (Lit × DataW H) → Nat
  | [] => 0
  | x :: r => uptoBulkEntry x + uptoBulkEntries r
def uptoBulkEntry {H : Type} : Lit × DataW H → Nat
  | (.string bytes, d) => bytes.length + uptoBulk d + 1
  | (_, d) => uptoBulk d + 1
 end
def uptoSmall : (H : Type) → List (DataW H) → Bool := fun _ ds => decide (uptoBulkAll ds ≤ 1048576)
def OpenSpec.upto (s : _root_.Go.ChangeSpec) : _root_.Go.OpenSpec := { _root_.Go.OpenSpec.ofChange s with cond := some uptoSmall }

/-- 'partitalaw07.VoiceSounds', WHERE WHAT IT READS IS OF BULK AT MOST 1048576: true; the input reads as it did. -/
def voiceSoundsUptoRow : OpenClaim := { program := "ytgkanaehhjkieaadoor", sum := "06a36849d3e0f05e2583ec7f6546c0b5dfad472aff06166e9dfda89b50bfbaef", func := "partita/partitalaw07.VoiceSounds", spec := "voiceSounds", unfollowed := true, recurses := true, named := ["unicode/utf8.first", "unicode/utf8.acceptRanges", "partita/pitch.halfTones", "partita/value.dotted", "partita/value.kinds"], plainKeys := false, apart := false, laid := [("unicode/utf8.acceptRanges", laid_unicode_utf8_acceptRanges), ("partita/pitch.halfTones", laid_partita_pitch_halfTones), ("partita/value.dotted", laid_partita_value_dotted), ("partita/value.kinds", laid_partita_value_kinds), ("unicode/utf8.first", laid_unicode_utf8_first)], narrowed := true }
def VoiceSoundsUptoSaid : Prop := voiceSoundsUptoRow.holds Tryd.pinned (OpenSpec.upto voiceSoundsSpec)

/-- 'partitalaw07.VoiceJoins', WHERE WHAT IT READS IS OF BULK AT MOST 1048576: true; the input reads as it did. -/
def voiceJoinsUptoRow : OpenClaim := { program := "ytgkanaehhjkieaadoor", sum := "06a36849d3e0f05e2583ec7f6546c0b5dfad472aff06166e9dfda89b50bfbaef", func := "partita/partitalaw07.VoiceJoins", spec := "voiceJoins", unfollowed := true, recurses := true, named := ["unicode/utf8.first", "unicode/utf8.acceptRanges", "partita/pitch.halfTones", "partita/value.dotted", "partita/value.kinds"], plainKeys := false, apart := false, laid := [("unicode/utf8.acceptRanges", laid_unicode_utf8_acceptRanges), ("partita/pitch.halfTones", laid_partita_pitch_halfTones), ("partita/value.dotted", laid_partita_value_dotted), ("partita/value.kinds", laid_partita_value_kinds), ("unicode/utf8.first", laid_unicode_utf8_first)], narrowed := true }
def VoiceJoinsUptoSaid : Prop := voiceJoinsUptoRow.holds Tryd.pinned (OpenSpec.upto voiceJoinsSpec)

/-- 'partitalaw07.VoicePlaces', WHERE WHAT IT READS IS OF BULK AT MOST 1048576: true; the input reads as it did. -/
def voicePlacesUptoRow : OpenClaim := { program := "ytgkanaehhjkieaadoor", sum := "06a36849d3e0f05e2583ec7f6546c0b5dfad472aff06166e9dfda89b50bfbaef", func := "partita/partitalaw07.VoicePlaces", spec := "voicePlaces", unfollowed := true, recurses := true, named := ["unicode/utf8.first", "unicode/utf8.acceptRanges", "partita/pitch.halfTones", "partita/value.dotted", "partita/value.kinds"], plainKeys := false, apart := false, laid := [("unicode/utf8.acceptRanges", laid_unicode_utf8_acceptRanges), ("partita/pitch.halfTones", laid_partita_pitch_halfTones), ("partita/value.dotted", laid_partita_value_dotted), ("partita/value.kinds", laid_partita_value_kinds), ("unicode/utf8.first", laid_unicode_utf8_first)], narrowed := true }
def VoicePlacesUptoSaid : Prop := voicePlacesUptoRow.holds Tryd.pinned (OpenSpec.upto voicePlacesSpec)

/-- 'partitalaw07.VoiceRests', WHERE WHAT IT READS IS OF BULK AT MOST 1048576: true; the input reads as it did. -/
def voiceRestsUptoRow : OpenClaim := { program := "ytgkanaehhjkieaadoor", sum := "06a36849d3e0f05e2583ec7f6546c0b5dfad472aff06166e9dfda89b50bfbaef", func := "partita/partitalaw07.VoiceRests", spec := "voiceRests", unfollowed := true, recurses := true, named := ["unicode/utf8.first", "unicode/utf8.acceptRanges", "partita/pitch.halfTones", "partita/value.dotted", "partita/value.kinds"], plainKeys := false, apart := false, laid := [("unicode/utf8.acceptRanges", laid_unicode_utf8_acceptRanges), ("partita/pitch.halfTones", laid_partita_pitch_halfTones), ("partita/value.dotted", laid_partita_value_dotted), ("partita/value.kinds", laid_partita_value_kinds), ("unicode/utf8.first", laid_unicode_utf8_first)], narrowed := true }
def VoiceRestsUptoSaid : Prop := voiceRestsUptoRow.holds Tryd.pinned (OpenSpec.upto voiceRestsSpec)

/-- 'partitalaw07.VoiceTies', WHERE WHAT IT READS IS OF BULK AT MOST 1048576: true; the input reads as it did. -/
def voiceTiesUptoRow : OpenClaim := { program := "ytgkanaehhjkieaadoor", sum := "06a36849d3e0f05e2583ec7f6546c0b5dfad472aff06166e9dfda89b50bfbaef", func := "partita/partitalaw07.VoiceTies", spec := "voiceTies", unfollowed := true, recurses := true, named := ["unicode/utf8.first", "unicode/utf8.acceptRanges", "partita/pitch.halfTones", "partita/value.dotted", "partita/value.kinds"], plainKeys := false, apart := false, laid := [("unicode/utf8.acceptRanges", laid_unicode_utf8_acceptRanges), ("partita/pitch.halfTones", laid_partita_pitch_halfTones), ("partita/value.dotted", laid_partita_value_dotted), ("partita/value.kinds", laid_partita_value_kinds), ("unicode/utf8.first", laid_unicode_utf8_first)], narrowed := true }
def VoiceTiesUptoSaid : Prop := voiceTiesUptoRow.holds Tryd.pinned (OpenSpec.upto voiceTiesSpec)

/-- 'partitalaw07.VoiceErrors', WHERE WHAT IT READS IS OF BULK AT MOST 1048576: true; the input reads as it did. -/
def voiceErrorsUptoRow : OpenClaim := { program := "ytgkanaehhjkieaadoor", sum := "06a36849d3e0f05e2583ec7f6546c0b5dfad472aff06166e9dfda89b50bfbaef", func := "partita/partitalaw07.VoiceErrors", spec := "voiceErrors", unfollowed := true, recurses := true, named := ["unicode/utf8.first", "unicode/utf8.acceptRanges", "partita/pitch.halfTones", "partita/value.dotted", "partita/value.kinds"], plainKeys := false, apart := false, laid := [("unicode/utf8.acceptRanges", laid_unicode_utf8_acceptRanges), ("partita/pitch.halfTones", laid_partita_pitch_halfTones), ("partita/value.dotted", laid_partita_value_dotted), ("partita/value.kinds", laid_partita_value_kinds), ("unicode/utf8.first", laid_unicode_utf8_first)], narrowed := true }
def VoiceErrorsUptoSaid : Prop := voiceErrorsUptoRow.holds Tryd.pinned (OpenSpec.upto voiceErrorsSpec)

/-- 'partitalaw07.VoiceSame', WHERE WHAT IT READS IS OF BULK AT MOST 1048576: true; the input reads as it did. -/
def voiceSameUptoRow : OpenClaim := { program := "ytgkanaehhjkieaadoor", sum := "06a36849d3e0f05e2583ec7f6546c0b5dfad472aff06166e9dfda89b50bfbaef", func := "partita/partitalaw07.VoiceSame", spec := "voiceSame", unfollowed := true, recurses := true, named := ["unicode/utf8.first", "unicode/utf8.acceptRanges", "partita/pitch.halfTones", "partita/value.dotted", "partita/value.kinds"], plainKeys := false, apart := false, laid := [("unicode/utf8.acceptRanges", laid_unicode_utf8_acceptRanges), ("partita/pitch.halfTones", laid_partita_pitch_halfTones), ("partita/value.dotted", laid_partita_value_dotted), ("partita/value.kinds", laid_partita_value_kinds), ("unicode/utf8.first", laid_unicode_utf8_first)], narrowed := true }
def VoiceSameUptoSaid : Prop := voiceSameUptoRow.holds Tryd.pinned (OpenSpec.upto voiceSameSpec)

end Rows
end Go.Proofs.YtgkanaehhjkieaaDoor
