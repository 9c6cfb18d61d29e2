/-
  NARROWER THAN 'FOR EVERY INPUT', by the rows' own cells (each row's printed sentence says how): EventChords: laid · EventChordOne: laid · EventChordTurn: laid · EventChordAll: laid · EventChordUp: laid.
  DERIVED. THE GIVEN ROWS OF THIS SEAT. 5 by the template 'for every input the law returns true; each argument reads behind the call as it read before'; 0 by the template 'total and deterministic' (their statements: YtlbkefgnblajlaaDoorTotals.lean).
  GIVEN WITH THE SEED: the statements are not yours to turn. If you find one false, say at which input.
  Laid BY PROGRAM, IN A SANDBOX (cutbox-rows.mjs): the forced cells as the released guide's own fill.sh prints them over the translation a244a57d579ec4c1… (all of the seat's roots in one cut). By AI agents, Wed Nov 11 2026. No macro, syntax, notation, axiom, sorry.
-/
import Derived.Test.YtlbkefgnblajlaaDoorChecked
import GoSem.PinnedTables
import GoSem.Claim
import GoSem.ClaimJoined
import GoSem.ClaimMapViews
import Derived.JoinedTies
import Derived.KernelRfl
namespace Go.Proofs.YtlbkefgnblajlaaDoor
/- THE CELL 'sum', in the pinned program and in every row, IS THE sha256 OF THE DUMP (.gsa) THAT YtlbkefgnblajlaaDoorProg.lean LOADS. Nothing in Lean hashes anything: it is a label: what it is worth is what the hold of that sum in a sandbox is worth. -/
noncomputable def Tryd.pinned : Pinned := { name := "ytlbkefgnblajlaadoor", sum := "a244a57d579ec4c1437a04c267a388d6ccd5f546af6dd1a26acb8df31dedd843", checked := Tryd.checked }
namespace Rows
def none {H : Type} : Left H := { results := [], args := [] }

/- WHAT THE LISTED PACKAGE-LEVEL VARIABLES READ AS WHEN THE CALL BEGINS. Each datum BY PROGRAM (the guide's laid-datum.mjs) off the statement by which the dump's own 'gosem.cut.vars' lays the variable. In a bare row this is a premise. The card (YtlbkefgnblajlaaDoorCards.lean) ties it to the program's text. -/
def laid_unicode_utf8_acceptRanges {H : Type} : DataW H := .agg [.agg [.lit (.int .u8 128), .lit (.int .u8 191)], .agg [.lit (.int .u8 160), .lit (.int .u8 191)], .agg [.lit (.int .u8 128), .lit (.int .u8 159)], .agg [.lit (.int .u8 144), .lit (.int .u8 191)], .agg [.lit (.int .u8 128), .lit (.int .u8 143)], .agg [.lit (.int .u8 0), .lit (.int .u8 0)], .agg [.lit (.int .u8 0), .lit (.int .u8 0)], .agg [.lit (.int .u8 0), .lit (.int .u8 0)], .agg [.lit (.int .u8 0), .lit (.int .u8 0)], .agg [.lit (.int .u8 0), .lit (.int .u8 0)], .agg [.lit (.int .u8 0), .lit (.int .u8 0)], .agg [.lit (.int .u8 0), .lit (.int .u8 0)], .agg [.lit (.int .u8 0), .lit (.int .u8 0)], .agg [.lit (.int .u8 0), .lit (.int .u8 0)], .agg [.lit (.int .u8 0), .lit (.int .u8 0)], .agg [.lit (.int .u8 0), .lit (.int .u8 0)]]
def laid_partita_pitch_halfTones {H : Type} : DataW H := .agg [.lit (.int .i64 0), .lit (.int .i64 2), .lit (.int .i64 4), .lit (.int .i64 5), .lit (.int .i64 7), .lit (.int .i64 9), .lit (.int .i64 11)]
def laid_partita_value_dotted {H : Type} : DataW H := .agg [.agg [.lit (.int .i64 1), .lit (.int .i64 1)], .agg [.lit (.int .i64 3), .lit (.int .i64 2)], .agg [.lit (.int .i64 7), .lit (.int .i64 4)]]
/-- One of Go's own tables, pinned by name: the form's constant. -/
def laid_unicode_utf8_first : DataW Unit := Go.Pinned.utf8First

/-- 'partitalaw06.EventChords': WHATEVER THE INPUT: true; the input reads as it did. -/
def eventChordsSpec : ChangeSpec := { name := "eventChords", fn := fun _ => fun
  | [d] => { results := [.lit (.bool true)], args := [d] }
  | _ => none }
def eventChordsRow : OpenClaim := { program := "ytlbkefgnblajlaadoor", sum := "a244a57d579ec4c1437a04c267a388d6ccd5f546af6dd1a26acb8df31dedd843", func := "partita/partitalaw06.EventChords", spec := "eventChords", unfollowed := true, recurses := true, named := ["unicode/utf8.first", "unicode/utf8.acceptRanges", "partita/pitch.halfTones", "partita/value.dotted"], plainKeys := false, apart := false, laid := [("unicode/utf8.acceptRanges", laid_unicode_utf8_acceptRanges), ("partita/pitch.halfTones", laid_partita_pitch_halfTones), ("partita/value.dotted", laid_partita_value_dotted), ("unicode/utf8.first", laid_unicode_utf8_first)] }
def EventChordsSaid : Prop := eventChordsRow.holds Tryd.pinned (OpenSpec.ofChange eventChordsSpec)

/-- ITS FALSE NEIGHBOUR: 'it returns false'. Refute it at one input. -/
def eventChordsWrong : ChangeSpec := { name := "eventChords", fn := fun _ => fun
  | [d] => { results := [.lit (.bool false)], args := [d] }
  | _ => none }
def EventChordsWrongFalsely : Prop := eventChordsRow.holds Tryd.pinned (OpenSpec.ofChange eventChordsWrong)

/-- 'partitalaw06.EventChordOne': WHATEVER THE INPUT: true; the input reads as it did. -/
def eventChordOneSpec : ChangeSpec := { name := "eventChordOne", fn := fun _ => fun
  | [d] => { results := [.lit (.bool true)], args := [d] }
  | _ => none }
def eventChordOneRow : OpenClaim := { program := "ytlbkefgnblajlaadoor", sum := "a244a57d579ec4c1437a04c267a388d6ccd5f546af6dd1a26acb8df31dedd843", func := "partita/partitalaw06.EventChordOne", spec := "eventChordOne", unfollowed := true, recurses := true, named := ["unicode/utf8.first", "unicode/utf8.acceptRanges", "partita/pitch.halfTones", "partita/value.dotted"], plainKeys := false, apart := false, laid := [("unicode/utf8.acceptRanges", laid_unicode_utf8_acceptRanges), ("partita/pitch.halfTones", laid_partita_pitch_halfTones), ("partita/value.dotted", laid_partita_value_dotted), ("unicode/utf8.first", laid_unicode_utf8_first)] }
def EventChordOneSaid : Prop := eventChordOneRow.holds Tryd.pinned (OpenSpec.ofChange eventChordOneSpec)

/-- ITS FALSE NEIGHBOUR: 'it returns false'. Refute it at one input. -/
def eventChordOneWrong : ChangeSpec := { name := "eventChordOne", fn := fun _ => fun
  | [d] => { results := [.lit (.bool false)], args := [d] }
  | _ => none }
def EventChordOneWrongFalsely : Prop := eventChordOneRow.holds Tryd.pinned (OpenSpec.ofChange eventChordOneWrong)

/-- 'partitalaw06.EventChordTurn': WHATEVER THE INPUT: true; the input reads as it did. -/
def eventChordTurnSpec : ChangeSpec := { name := "eventChordTurn", fn := fun _ => fun
  | [d1, d2] => { results := [.lit (.bool true)], args := [d1, d2] }
  | _ => none }
def eventChordTurnRow : OpenClaim := { program := "ytlbkefgnblajlaadoor", sum := "a244a57d579ec4c1437a04c267a388d6ccd5f546af6dd1a26acb8df31dedd843", func := "partita/partitalaw06.EventChordTurn", spec := "eventChordTurn", unfollowed := true, recurses := true, named := ["unicode/utf8.first", "unicode/utf8.acceptRanges", "partita/pitch.halfTones", "partita/value.dotted"], plainKeys := false, apart := false, laid := [("unicode/utf8.acceptRanges", laid_unicode_utf8_acceptRanges), ("partita/pitch.halfTones", laid_partita_pitch_halfTones), ("partita/value.dotted", laid_partita_value_dotted), ("unicode/utf8.first", laid_unicode_utf8_first)] }
def EventChordTurnSaid : Prop := eventChordTurnRow.holds Tryd.pinned (OpenSpec.ofChange eventChordTurnSpec)

/-- ITS FALSE NEIGHBOUR: 'it returns false'. Refute it at one input. -/
def eventChordTurnWrong : ChangeSpec := { name := "eventChordTurn", fn := fun _ => fun
  | [d1, d2] => { results := [.lit (.bool false)], args := [d1, d2] }
  | _ => none }
def EventChordTurnWrongFalsely : Prop := eventChordTurnRow.holds Tryd.pinned (OpenSpec.ofChange eventChordTurnWrong)

/-- 'partitalaw06.EventChordAll': WHATEVER THE INPUT: true; the input reads as it did. -/
def eventChordAllSpec : ChangeSpec := { name := "eventChordAll", fn := fun _ => fun
  | [d1, d2] => { results := [.lit (.bool true)], args := [d1, d2] }
  | _ => none }
def eventChordAllRow : OpenClaim := { program := "ytlbkefgnblajlaadoor", sum := "a244a57d579ec4c1437a04c267a388d6ccd5f546af6dd1a26acb8df31dedd843", func := "partita/partitalaw06.EventChordAll", spec := "eventChordAll", unfollowed := true, recurses := true, named := ["unicode/utf8.first", "unicode/utf8.acceptRanges", "partita/pitch.halfTones", "partita/value.dotted"], plainKeys := false, apart := false, laid := [("unicode/utf8.acceptRanges", laid_unicode_utf8_acceptRanges), ("partita/pitch.halfTones", laid_partita_pitch_halfTones), ("partita/value.dotted", laid_partita_value_dotted), ("unicode/utf8.first", laid_unicode_utf8_first)] }
def EventChordAllSaid : Prop := eventChordAllRow.holds Tryd.pinned (OpenSpec.ofChange eventChordAllSpec)

/-- ITS FALSE NEIGHBOUR: 'it returns false'. Refute it at one input. -/
def eventChordAllWrong : ChangeSpec := { name := "eventChordAll", fn := fun _ => fun
  | [d1, d2] => { results := [.lit (.bool false)], args := [d1, d2] }
  | _ => none }
def EventChordAllWrongFalsely : Prop := eventChordAllRow.holds Tryd.pinned (OpenSpec.ofChange eventChordAllWrong)

/-- 'partitalaw06.EventChordUp': WHATEVER THE INPUT: true; the input reads as it did. -/
def eventChordUpSpec : ChangeSpec := { name := "eventChordUp", fn := fun _ => fun
  | [d1, d2] => { results := [.lit (.bool true)], args := [d1, d2] }
  | _ => none }
def eventChordUpRow : OpenClaim := { program := "ytlbkefgnblajlaadoor", sum := "a244a57d579ec4c1437a04c267a388d6ccd5f546af6dd1a26acb8df31dedd843", func := "partita/partitalaw06.EventChordUp", spec := "eventChordUp", unfollowed := true, recurses := true, named := ["unicode/utf8.first", "unicode/utf8.acceptRanges", "partita/pitch.halfTones", "partita/value.dotted"], plainKeys := false, apart := false, laid := [("unicode/utf8.acceptRanges", laid_unicode_utf8_acceptRanges), ("partita/pitch.halfTones", laid_partita_pitch_halfTones), ("partita/value.dotted", laid_partita_value_dotted), ("unicode/utf8.first", laid_unicode_utf8_first)] }
def EventChordUpSaid : Prop := eventChordUpRow.holds Tryd.pinned (OpenSpec.ofChange eventChordUpSpec)

/-- ITS FALSE NEIGHBOUR: 'it returns false'. Refute it at one input. -/
def eventChordUpWrong : ChangeSpec := { name := "eventChordUp", fn := fun _ => fun
  | [d1, d2] => { results := [.lit (.bool false)], args := [d1, d2] }
  | _ => none }
def EventChordUpWrongFalsely : Prop := eventChordUpRow.holds Tryd.pinned (OpenSpec.ofChange eventChordUpWrong)

/- THE SECOND FORM. 'bulk': how many values and letters a reading holds, each counted each time it is reached (what is shared counts as often as it is met; a slice's spare places count too). A statement '..UptoSaid' is the law's where the arguments, and the package variables that the reading takes, are together of bulk at most 1048576: NARROWER than '..Said'. Prove '..Said' where nothing that the law and all that it calls make is longer than what came in: it says more and counts as full. Else prove '..UptoSaid'. A law counts once. -/
mutual
def uptoBulk {H : Type} : DataW H → Nat
  | .lit (.string bytes) => bytes.length + 1
  | .lit _ => 1
  | .nil => 1
  | .ptr d => uptoBulk d + 1
  | .slice elems spare => uptoBulkAll elems + uptoBulkAll spare + 1
  | .agg parts => uptoBulkAll parts + 1
  | .iface _ d => uptoBulk d + 1
  | .map entries => uptoBulkEntries entries + 1
  | .held _ => 1
def uptoBulkAll {H : Type} : List (DataW H) → Nat
  | [] => 0
  | d :: r => uptoBulk d + uptoBulkAll r
def uptoBulkEntries {H : Type} : List (Lit × DataW H) → Nat
  | [] => 0
  | x :: r => uptoBulkEntry x + uptoBulkEntries r
def uptoBulkEntry {H : Type} : Lit × DataW H → Nat
  | (.string bytes, d) => bytes.length + uptoBulk d + 1
  | (_, d) => uptoBulk d + 1
 end
def uptoSmall : (H : Type) → List (DataW H) → Bool := fun _ ds => decide (uptoBulkAll ds ≤ 1048576)
def OpenSpec.upto (s : _root_.Go.ChangeSpec) : _root_.Go.OpenSpec := { _root_.Go.OpenSpec.ofChange s with cond := some uptoSmall }

/-- 'partitalaw06.EventChords', WHERE WHAT IT READS IS OF BULK AT MOST 1048576: true; the input reads as it did. -/
def eventChordsUptoRow : OpenClaim := { program := "ytlbkefgnblajlaadoor", sum := "a244a57d579ec4c1437a04c267a388d6ccd5f546af6dd1a26acb8df31dedd843", func := "partita/partitalaw06.EventChords", spec := "eventChords", unfollowed := true, recurses := true, named := ["unicode/utf8.first", "unicode/utf8.acceptRanges", "partita/pitch.halfTones", "partita/value.dotted"], plainKeys := false, apart := false, laid := [("unicode/utf8.acceptRanges", laid_unicode_utf8_acceptRanges), ("partita/pitch.halfTones", laid_partita_pitch_halfTones), ("partita/value.dotted", laid_partita_value_dotted), ("unicode/utf8.first", laid_unicode_utf8_first)], narrowed := true }
def EventChordsUptoSaid : Prop := eventChordsUptoRow.holds Tryd.pinned (OpenSpec.upto eventChordsSpec)

/-- 'partitalaw06.EventChordOne', WHERE WHAT IT READS IS OF BULK AT MOST 1048576: true; the input reads as it did. -/
def eventChordOneUptoRow : OpenClaim := { program := "ytlbkefgnblajlaadoor", sum := "a244a57d579ec4c1437a04c267a388d6ccd5f546af6dd1a26acb8df31dedd843", func := "partita/partitalaw06.EventChordOne", spec := "eventChordOne", unfollowed := true, recurses := true, named := ["unicode/utf8.first", "unicode/utf8.acceptRanges", "partita/pitch.halfTones", "partita/value.dotted"], plainKeys := false, apart := false, laid := [("unicode/utf8.acceptRanges", laid_unicode_utf8_acceptRanges), ("partita/pitch.halfTones", laid_partita_pitch_halfTones), ("partita/value.dotted", laid_partita_value_dotted), ("unicode/utf8.first", laid_unicode_utf8_first)], narrowed := true }
def EventChordOneUptoSaid : Prop := eventChordOneUptoRow.holds Tryd.pinned (OpenSpec.upto eventChordOneSpec)

/-- 'partitalaw06.EventChordTurn', WHERE WHAT IT READS IS OF BULK AT MOST 1048576: true; the input reads as it did. -/
def eventChordTurnUptoRow : OpenClaim := { program := "ytlbkefgnblajlaadoor", sum := "a244a57d579ec4c1437a04c267a388d6ccd5f546af6dd1a26acb8df31dedd843", func := "partita/partitalaw06.EventChordTurn", spec := "eventChordTurn", unfollowed := true, recurses := true, named := ["unicode/utf8.first", "unicode/utf8.acceptRanges", "partita/pitch.halfTones", "partita/value.dotted"], plainKeys := false, apart := false, laid := [("unicode/utf8.acceptRanges", laid_unicode_utf8_acceptRanges), ("partita/pitch.halfTones", laid_partita_pitch_halfTones), ("partita/value.dotted", laid_partita_value_dotted), ("unicode/utf8.first", laid_unicode_utf8_first)], narrowed := true }
def EventChordTurnUptoSaid : Prop := eventChordTurnUptoRow.holds Tryd.pinned (OpenSpec.upto eventChordTurnSpec)

/-- 'partitalaw06.EventChordAll', WHERE WHAT IT READS IS OF BULK AT MOST 1048576: true; the input reads as it did. -/
def eventChordAllUptoRow : OpenClaim := { program := "ytlbkefgnblajlaadoor", sum := "a244a57d579ec4c1437a04c267a388d6ccd5f546af6dd1a26acb8df31dedd843", func := "partita/partitalaw06.EventChordAll", spec := "eventChordAll", unfollowed := true, recurses := true, named := ["unicode/utf8.first", "unicode/utf8.acceptRanges", "partita/pitch.halfTones", "partita/value.dotted"], plainKeys := false, apart := false, laid := [("unicode/utf8.acceptRanges", laid_unicode_utf8_acceptRanges), ("partita/pitch.halfTones", laid_partita_pitch_halfTones), ("partita/value.dotted", laid_partita_value_dotted), ("unicode/utf8.first", laid_unicode_utf8_first)], narrowed := true }
def EventChordAllUptoSaid : Prop := eventChordAllUptoRow.holds Tryd.pinned (OpenSpec.upto eventChordAllSpec)

/-- 'partitalaw06.EventChordUp', WHERE WHAT IT READS IS OF BULK AT MOST 1048576: true; the input reads as it did. -/
def eventChordUpUptoRow : OpenClaim := { program := "ytlbkefgnblajlaadoor", sum := "a244a57d579ec4c1437a04c267a388d6ccd5f546af6dd1a26acb8df31dedd843", func := "partita/partitalaw06.EventChordUp", spec := "eventChordUp", unfollowed := true, recurses := true, named := ["unicode/utf8.first", "unicode/utf8.acceptRanges", "partita/pitch.halfTones", "partita/value.dotted"], plainKeys := false, apart := false, laid := [("unicode/utf8.acceptRanges", laid_unicode_utf8_acceptRanges), ("partita/pitch.halfTones", laid_partita_pitch_halfTones), ("partita/value.dotted", laid_partita_value_dotted), ("unicode/utf8.first", laid_unicode_utf8_first)], narrowed := true }
def EventChordUpUptoSaid : Prop := eventChordUpUptoRow.holds Tryd.pinned (OpenSpec.upto eventChordUpSpec)

end Rows
end Go.Proofs.YtlbkefgnblajlaaDoor
