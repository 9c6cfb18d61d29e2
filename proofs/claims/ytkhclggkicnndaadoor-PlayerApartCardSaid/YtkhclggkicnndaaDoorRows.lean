/-
  NARROWER THAN 'FOR EVERY INPUT', by the rows' own cells (each row's printed sentence says how): PlayerCuts: laid · PlayerThrough: laid · PlayerLater: laid · PlayerSpeeds: laid · PlayerLoops: laid · PlayerBalance: laid · PlayerOrder: laid · PlayerApart: laid.
  DERIVED. THE GIVEN ROWS OF THIS SEAT. 8 by the template 'for every input the law returns true; each argument reads behind the call as it read before'; 0 by the template 'total and deterministic' (their statements: YtkhclggkicnndaaDoorTotals.lean).
  GIVEN WITH THE SEED: the statements are not yours to turn. If you find one false, say at which input.
  Laid BY PROGRAM, IN A SANDBOX (cutbox-rows.mjs): the forced cells as the released guide's own fill.sh prints them over the translation 6d4fa31da6b6cbe8… (all of the seat's roots in one cut). By AI agents, Wed Nov 11 2026. No macro, syntax, notation, axiom, sorry.
-/
import Derived.Test.YtkhclggkicnndaaDoorChecked
import GoSem.Claim
import GoSem.ClaimJoined
import GoSem.ClaimMapViews
import Derived.JoinedTies
import Derived.KernelRfl
namespace Go.Proofs.YtkhclggkicnndaaDoor
/- THE CELL 'sum', in the pinned program and in every row, IS THE sha256 OF THE DUMP (.gsa) THAT YtkhclggkicnndaaDoorProg.lean LOADS. Nothing in Lean hashes anything: it is a label: what it is worth is what the hold of that sum in a sandbox is worth. -/
noncomputable def Tryd.pinned : Pinned := { name := "ytkhclggkicnndaadoor", sum := "6d4fa31da6b6cbe867bca5333956753ef2fbc4ac626be9c8038ab6578c2b7644", checked := Tryd.checked }
namespace Rows
def none {H : Type} : Left H := { results := [], args := [] }

/- WHAT THE LISTED PACKAGE-LEVEL VARIABLES READ AS WHEN THE CALL BEGINS. Each datum BY PROGRAM (the guide's laid-datum.mjs) off the statement by which the dump's own 'gosem.cut.vars' lays the variable. In a bare row this is a premise. The card (YtkhclggkicnndaaDoorCards.lean) ties it to the program's text. -/
def laid_errors_errorType {H : Type} : DataW H := .iface "internal/reflectlite.rtype" (.agg [.ptr (.lit (.string [101, 114, 114, 111, 114]))])

/-- 'partitalaw14.PlayerCuts': WHATEVER THE INPUT: true; the input reads as it did. -/
def playerCutsSpec : ChangeSpec := { name := "playerCuts", fn := fun _ => fun
  | [d1, d2] => { results := [.lit (.bool true)], args := [d1, d2] }
  | _ => none }
def playerCutsRow : OpenClaim := { program := "ytkhclggkicnndaadoor", sum := "6d4fa31da6b6cbe867bca5333956753ef2fbc4ac626be9c8038ab6578c2b7644", func := "partita/partitalaw14.PlayerCuts", spec := "playerCuts", inPlace := ["internal/reflectlite.ValueOf", "(internal/reflectlite.Value).Type", "(internal/reflectlite.Value).IsNil", "internal/reflectlite.TypeOf", "(internal/reflectlite.Value).Elem", "(internal/reflectlite.Value).Set"], unfollowed := true, recurses := true, named := ["errors.errorType"], plainKeys := false, apart := false, laid := [("errors.errorType", laid_errors_errorType)] }
def PlayerCutsSaid : Prop := playerCutsRow.holds Tryd.pinned (OpenSpec.ofChange playerCutsSpec)

/-- ITS FALSE NEIGHBOUR: 'it returns false'. Refute it at one input. -/
def playerCutsWrong : ChangeSpec := { name := "playerCuts", fn := fun _ => fun
  | [d1, d2] => { results := [.lit (.bool false)], args := [d1, d2] }
  | _ => none }
def PlayerCutsWrongFalsely : Prop := playerCutsRow.holds Tryd.pinned (OpenSpec.ofChange playerCutsWrong)

/-- 'partitalaw14.PlayerThrough': WHATEVER THE INPUT: true; the input reads as it did. -/
def playerThroughSpec : ChangeSpec := { name := "playerThrough", fn := fun _ => fun
  | [d] => { results := [.lit (.bool true)], args := [d] }
  | _ => none }
def playerThroughRow : OpenClaim := { program := "ytkhclggkicnndaadoor", sum := "6d4fa31da6b6cbe867bca5333956753ef2fbc4ac626be9c8038ab6578c2b7644", func := "partita/partitalaw14.PlayerThrough", spec := "playerThrough", inPlace := ["internal/reflectlite.ValueOf", "(internal/reflectlite.Value).Type", "(internal/reflectlite.Value).IsNil", "internal/reflectlite.TypeOf", "(internal/reflectlite.Value).Elem", "(internal/reflectlite.Value).Set"], unfollowed := true, recurses := true, named := ["errors.errorType"], plainKeys := false, apart := false, laid := [("errors.errorType", laid_errors_errorType)] }
def PlayerThroughSaid : Prop := playerThroughRow.holds Tryd.pinned (OpenSpec.ofChange playerThroughSpec)

/-- ITS FALSE NEIGHBOUR: 'it returns false'. Refute it at one input. -/
def playerThroughWrong : ChangeSpec := { name := "playerThrough", fn := fun _ => fun
  | [d] => { results := [.lit (.bool false)], args := [d] }
  | _ => none }
def PlayerThroughWrongFalsely : Prop := playerThroughRow.holds Tryd.pinned (OpenSpec.ofChange playerThroughWrong)

/-- 'partitalaw14.PlayerLater': WHATEVER THE INPUT: true; the input reads as it did. -/
def playerLaterSpec : ChangeSpec := { name := "playerLater", fn := fun _ => fun
  | [d1, d2, d3] => { results := [.lit (.bool true)], args := [d1, d2, d3] }
  | _ => none }
def playerLaterRow : OpenClaim := { program := "ytkhclggkicnndaadoor", sum := "6d4fa31da6b6cbe867bca5333956753ef2fbc4ac626be9c8038ab6578c2b7644", func := "partita/partitalaw14.PlayerLater", spec := "playerLater", inPlace := ["internal/reflectlite.ValueOf", "(internal/reflectlite.Value).Type", "(internal/reflectlite.Value).IsNil", "internal/reflectlite.TypeOf", "(internal/reflectlite.Value).Elem", "(internal/reflectlite.Value).Set"], unfollowed := true, recurses := true, named := ["errors.errorType"], plainKeys := false, apart := false, laid := [("errors.errorType", laid_errors_errorType)] }
def PlayerLaterSaid : Prop := playerLaterRow.holds Tryd.pinned (OpenSpec.ofChange playerLaterSpec)

/-- ITS FALSE NEIGHBOUR: 'it returns false'. Refute it at one input. -/
def playerLaterWrong : ChangeSpec := { name := "playerLater", fn := fun _ => fun
  | [d1, d2, d3] => { results := [.lit (.bool false)], args := [d1, d2, d3] }
  | _ => none }
def PlayerLaterWrongFalsely : Prop := playerLaterRow.holds Tryd.pinned (OpenSpec.ofChange playerLaterWrong)

/-- 'partitalaw14.PlayerSpeeds': WHATEVER THE INPUT: true; the input reads as it did. -/
def playerSpeedsSpec : ChangeSpec := { name := "playerSpeeds", fn := fun _ => fun
  | [d1, d2, d3, d4] => { results := [.lit (.bool true)], args := [d1, d2, d3, d4] }
  | _ => none }
def playerSpeedsRow : OpenClaim := { program := "ytkhclggkicnndaadoor", sum := "6d4fa31da6b6cbe867bca5333956753ef2fbc4ac626be9c8038ab6578c2b7644", func := "partita/partitalaw14.PlayerSpeeds", spec := "playerSpeeds", inPlace := ["internal/reflectlite.ValueOf", "(internal/reflectlite.Value).Type", "(internal/reflectlite.Value).IsNil", "internal/reflectlite.TypeOf", "(internal/reflectlite.Value).Elem", "(internal/reflectlite.Value).Set"], unfollowed := true, recurses := true, named := ["errors.errorType"], plainKeys := false, apart := false, laid := [("errors.errorType", laid_errors_errorType)] }
def PlayerSpeedsSaid : Prop := playerSpeedsRow.holds Tryd.pinned (OpenSpec.ofChange playerSpeedsSpec)

/-- ITS FALSE NEIGHBOUR: 'it returns false'. Refute it at one input. -/
def playerSpeedsWrong : ChangeSpec := { name := "playerSpeeds", fn := fun _ => fun
  | [d1, d2, d3, d4] => { results := [.lit (.bool false)], args := [d1, d2, d3, d4] }
  | _ => none }
def PlayerSpeedsWrongFalsely : Prop := playerSpeedsRow.holds Tryd.pinned (OpenSpec.ofChange playerSpeedsWrong)

/-- 'partitalaw14.PlayerLoops': WHATEVER THE INPUT: true; the input reads as it did. -/
def playerLoopsSpec : ChangeSpec := { name := "playerLoops", fn := fun _ => fun
  | [d1, d2, d3, d4] => { results := [.lit (.bool true)], args := [d1, d2, d3, d4] }
  | _ => none }
def playerLoopsRow : OpenClaim := { program := "ytkhclggkicnndaadoor", sum := "6d4fa31da6b6cbe867bca5333956753ef2fbc4ac626be9c8038ab6578c2b7644", func := "partita/partitalaw14.PlayerLoops", spec := "playerLoops", inPlace := ["internal/reflectlite.ValueOf", "(internal/reflectlite.Value).Type", "(internal/reflectlite.Value).IsNil", "internal/reflectlite.TypeOf", "(internal/reflectlite.Value).Elem", "(internal/reflectlite.Value).Set"], unfollowed := true, recurses := true, named := ["errors.errorType"], plainKeys := false, apart := false, laid := [("errors.errorType", laid_errors_errorType)] }
def PlayerLoopsSaid : Prop := playerLoopsRow.holds Tryd.pinned (OpenSpec.ofChange playerLoopsSpec)

/-- ITS FALSE NEIGHBOUR: 'it returns false'. Refute it at one input. -/
def playerLoopsWrong : ChangeSpec := { name := "playerLoops", fn := fun _ => fun
  | [d1, d2, d3, d4] => { results := [.lit (.bool false)], args := [d1, d2, d3, d4] }
  | _ => none }
def PlayerLoopsWrongFalsely : Prop := playerLoopsRow.holds Tryd.pinned (OpenSpec.ofChange playerLoopsWrong)

/-- 'partitalaw14.PlayerBalance': WHATEVER THE INPUT: true; the input reads as it did. -/
def playerBalanceSpec : ChangeSpec := { name := "playerBalance", fn := fun _ => fun
  | [d1, d2, d3, d4] => { results := [.lit (.bool true)], args := [d1, d2, d3, d4] }
  | _ => none }
def playerBalanceRow : OpenClaim := { program := "ytkhclggkicnndaadoor", sum := "6d4fa31da6b6cbe867bca5333956753ef2fbc4ac626be9c8038ab6578c2b7644", func := "partita/partitalaw14.PlayerBalance", spec := "playerBalance", inPlace := ["internal/reflectlite.ValueOf", "(internal/reflectlite.Value).Type", "(internal/reflectlite.Value).IsNil", "internal/reflectlite.TypeOf", "(internal/reflectlite.Value).Elem", "(internal/reflectlite.Value).Set"], unfollowed := true, recurses := true, named := ["errors.errorType"], plainKeys := false, apart := false, laid := [("errors.errorType", laid_errors_errorType)] }
def PlayerBalanceSaid : Prop := playerBalanceRow.holds Tryd.pinned (OpenSpec.ofChange playerBalanceSpec)

/-- ITS FALSE NEIGHBOUR: 'it returns false'. Refute it at one input. -/
def playerBalanceWrong : ChangeSpec := { name := "playerBalance", fn := fun _ => fun
  | [d1, d2, d3, d4] => { results := [.lit (.bool false)], args := [d1, d2, d3, d4] }
  | _ => none }
def PlayerBalanceWrongFalsely : Prop := playerBalanceRow.holds Tryd.pinned (OpenSpec.ofChange playerBalanceWrong)

/-- 'partitalaw14.PlayerOrder': WHATEVER THE INPUT: true; the input reads as it did. -/
def playerOrderSpec : ChangeSpec := { name := "playerOrder", fn := fun _ => fun
  | [d1, d2] => { results := [.lit (.bool true)], args := [d1, d2] }
  | _ => none }
def playerOrderRow : OpenClaim := { program := "ytkhclggkicnndaadoor", sum := "6d4fa31da6b6cbe867bca5333956753ef2fbc4ac626be9c8038ab6578c2b7644", func := "partita/partitalaw14.PlayerOrder", spec := "playerOrder", inPlace := ["internal/reflectlite.ValueOf", "(internal/reflectlite.Value).Type", "(internal/reflectlite.Value).IsNil", "internal/reflectlite.TypeOf", "(internal/reflectlite.Value).Elem", "(internal/reflectlite.Value).Set"], unfollowed := true, recurses := true, named := ["errors.errorType"], plainKeys := false, apart := false, laid := [("errors.errorType", laid_errors_errorType)] }
def PlayerOrderSaid : Prop := playerOrderRow.holds Tryd.pinned (OpenSpec.ofChange playerOrderSpec)

/-- ITS FALSE NEIGHBOUR: 'it returns false'. Refute it at one input. -/
def playerOrderWrong : ChangeSpec := { name := "playerOrder", fn := fun _ => fun
  | [d1, d2] => { results := [.lit (.bool false)], args := [d1, d2] }
  | _ => none }
def PlayerOrderWrongFalsely : Prop := playerOrderRow.holds Tryd.pinned (OpenSpec.ofChange playerOrderWrong)

/-- 'partitalaw14.PlayerApart': WHATEVER THE INPUT: true; the input reads as it did. -/
def playerApartSpec : ChangeSpec := { name := "playerApart", fn := fun _ => fun
  | [d1, d2, d3] => { results := [.lit (.bool true)], args := [d1, d2, d3] }
  | _ => none }
def playerApartRow : OpenClaim := { program := "ytkhclggkicnndaadoor", sum := "6d4fa31da6b6cbe867bca5333956753ef2fbc4ac626be9c8038ab6578c2b7644", func := "partita/partitalaw14.PlayerApart", spec := "playerApart", inPlace := ["internal/reflectlite.ValueOf", "(internal/reflectlite.Value).Type", "(internal/reflectlite.Value).IsNil", "internal/reflectlite.TypeOf", "(internal/reflectlite.Value).Elem", "(internal/reflectlite.Value).Set"], unfollowed := true, recurses := true, named := ["errors.errorType"], plainKeys := false, apart := false, laid := [("errors.errorType", laid_errors_errorType)] }
def PlayerApartSaid : Prop := playerApartRow.holds Tryd.pinned (OpenSpec.ofChange playerApartSpec)

/-- ITS FALSE NEIGHBOUR: 'it returns false'. Refute it at one input. -/
def playerApartWrong : ChangeSpec := { name := "playerApart", fn := fun _ => fun
  | [d1, d2, d3] => { results := [.lit (.bool false)], args := [d1, d2, d3] }
  | _ => none }
def PlayerApartWrongFalsely : Prop := playerApartRow.holds Tryd.pinned (OpenSpec.ofChange playerApartWrong)

/- THE SECOND FORM. 'bulk': how many values and letters a reading holds, each counted each time it is reached (what is shared counts as often as it is met; a slice's spare places count too). A statement '..UptoSaid' is the law's where the arguments, and the package variables that the reading takes, are together of bulk at most 1048576: NARROWER than '..Said'. Prove '..Said' where nothing that the law and all that it calls make is longer than what came in: it says more and counts as full. Else prove '..UptoSaid'. A law counts once. -/
mutual
def uptoBulk {H : Type} : DataW H → Nat
  | .lit (.string bytes) => bytes.length + 1
  | .lit _ => 1
  | .nil => 1
  | .ptr d => uptoBulk d + 1
  | .slice elems spare => uptoBulkAll elems + uptoBulkAll spare + 1
  | .agg parts => uptoBulkAll parts + 1
  | .iface _ d => uptoBulk d + 1
  | .map entries => uptoBulkEntries entries + 1
  | .held _ => 1
def uptoBulkAll {H : Type} : List (DataW H) → Nat
  | [] => 0
  | d :: r => uptoBulk d + uptoBulkAll r
def uptoBulkEntries {H : Type} : List (Lit × DataW H) → Nat
  | [] => 0
  | x :: r => uptoBulkEntry x + uptoBulkEntries r
def uptoBulkEntry {H : Type} : Lit × DataW H → Nat
  | (.string bytes, d) => bytes.length + uptoBulk d + 1
  | (_, d) => uptoBulk d + 1
 end
def uptoSmall : (H : Type) → List (DataW H) → Bool := fun _ ds => decide (uptoBulkAll ds ≤ 1048576)
def OpenSpec.upto (s : _root_.Go.ChangeSpec) : _root_.Go.OpenSpec := { _root_.Go.OpenSpec.ofChange s with cond := some uptoSmall }

/-- 'partitalaw14.PlayerCuts', WHERE WHAT IT READS IS OF BULK AT MOST 1048576: true; the input reads as it did. -/
def playerCutsUptoRow : OpenClaim := { program := "ytkhclggkicnndaadoor", sum := "6d4fa31da6b6cbe867bca5333956753ef2fbc4ac626be9c8038ab6578c2b7644", func := "partita/partitalaw14.PlayerCuts", spec := "playerCuts", inPlace := ["internal/reflectlite.ValueOf", "(internal/reflectlite.Value).Type", "(internal/reflectlite.Value).IsNil", "internal/reflectlite.TypeOf", "(internal/reflectlite.Value).Elem", "(internal/reflectlite.Value).Set"], unfollowed := true, recurses := true, named := ["errors.errorType"], plainKeys := false, apart := false, laid := [("errors.errorType", laid_errors_errorType)], narrowed := true }
def PlayerCutsUptoSaid : Prop := playerCutsUptoRow.holds Tryd.pinned (OpenSpec.upto playerCutsSpec)

/-- 'partitalaw14.PlayerThrough', WHERE WHAT IT READS IS OF BULK AT MOST 1048576: true; the input reads as it did. -/
def playerThroughUptoRow : OpenClaim := { program := "ytkhclggkicnndaadoor", sum := "6d4fa31da6b6cbe867bca5333956753ef2fbc4ac626be9c8038ab6578c2b7644", func := "partita/partitalaw14.PlayerThrough", spec := "playerThrough", inPlace := ["internal/reflectlite.ValueOf", "(internal/reflectlite.Value).Type", "(internal/reflectlite.Value).IsNil", "internal/reflectlite.TypeOf", "(internal/reflectlite.Value).Elem", "(internal/reflectlite.Value).Set"], unfollowed := true, recurses := true, named := ["errors.errorType"], plainKeys := false, apart := false, laid := [("errors.errorType", laid_errors_errorType)], narrowed := true }
def PlayerThroughUptoSaid : Prop := playerThroughUptoRow.holds Tryd.pinned (OpenSpec.upto playerThroughSpec)

/-- 'partitalaw14.PlayerLater', WHERE WHAT IT READS IS OF BULK AT MOST 1048576: true; the input reads as it did. -/
def playerLaterUptoRow : OpenClaim := { program := "ytkhclggkicnndaadoor", sum := "6d4fa31da6b6cbe867bca5333956753ef2fbc4ac626be9c8038ab6578c2b7644", func := "partita/partitalaw14.PlayerLater", spec := "playerLater", inPlace := ["internal/reflectlite.ValueOf", "(internal/reflectlite.Value).Type", "(internal/reflectlite.Value).IsNil", "internal/reflectlite.TypeOf", "(internal/reflectlite.Value).Elem", "(internal/reflectlite.Value).Set"], unfollowed := true, recurses := true, named := ["errors.errorType"], plainKeys := false, apart := false, laid := [("errors.errorType", laid_errors_errorType)], narrowed := true }
def PlayerLaterUptoSaid : Prop := playerLaterUptoRow.holds Tryd.pinned (OpenSpec.upto playerLaterSpec)

/-- 'partitalaw14.PlayerSpeeds', WHERE WHAT IT READS IS OF BULK AT MOST 1048576: true; the input reads as it did. -/
def playerSpeedsUptoRow : OpenClaim := { program := "ytkhclggkicnndaadoor", sum := "6d4fa31da6b6cbe867bca5333956753ef2fbc4ac626be9c8038ab6578c2b7644", func := "partita/partitalaw14.PlayerSpeeds", spec := "playerSpeeds", inPlace := ["internal/reflectlite.ValueOf", "(internal/reflectlite.Value).Type", "(internal/reflectlite.Value).IsNil", "internal/reflectlite.TypeOf", "(internal/reflectlite.Value).Elem", "(internal/reflectlite.Value).Set"], unfollowed := true, recurses := true, named := ["errors.errorType"], plainKeys := false, apart := false, laid := [("errors.errorType", laid_errors_errorType)], narrowed := true }
def PlayerSpeedsUptoSaid : Prop := playerSpeedsUptoRow.holds Tryd.pinned (OpenSpec.upto playerSpeedsSpec)

/-- 'partitalaw14.PlayerLoops', WHERE WHAT IT READS IS OF BULK AT MOST 1048576: true; the input reads as it did. -/
def playerLoopsUptoRow : OpenClaim := { program := "ytkhclggkicnndaadoor", sum := "6d4fa31da6b6cbe867bca5333956753ef2fbc4ac626be9c8038ab6578c2b7644", func := "partita/partitalaw14.PlayerLoops", spec := "playerLoops", inPlace := ["internal/reflectlite.ValueOf", "(internal/reflectlite.Value).Type", "(internal/reflectlite.Value).IsNil", "internal/reflectlite.TypeOf", "(internal/reflectlite.Value).Elem", "(internal/reflectlite.Value).Set"], unfollowed := true, recurses := true, named := ["errors.errorType"], plainKeys := false, apart := false, laid := [("errors.errorType", laid_errors_errorType)], narrowed := true }
def PlayerLoopsUptoSaid : Prop := playerLoopsUptoRow.holds Tryd.pinned (OpenSpec.upto playerLoopsSpec)

/-- 'partitalaw14.PlayerBalance', WHERE WHAT IT READS IS OF BULK AT MOST 1048576: true; the input reads as it did. -/
def playerBalanceUptoRow : OpenClaim := { program := "ytkhclggkicnndaadoor", sum := "6d4fa31da6b6cbe867bca5333956753ef2fbc4ac626be9c8038ab6578c2b7644", func := "partita/partitalaw14.PlayerBalance", spec := "playerBalance", inPlace := ["internal/reflectlite.ValueOf", "(internal/reflectlite.Value).Type", "(internal/reflectlite.Value).IsNil", "internal/reflectlite.TypeOf", "(internal/reflectlite.Value).Elem", "(internal/reflectlite.Value).Set"], unfollowed := true, recurses := true, named := ["errors.errorType"], plainKeys := false, apart := false, laid := [("errors.errorType", laid_errors_errorType)], narrowed := true }
def PlayerBalanceUptoSaid : Prop := playerBalanceUptoRow.holds Tryd.pinned (OpenSpec.upto playerBalanceSpec)

/-- 'partitalaw14.PlayerOrder', WHERE WHAT IT READS IS OF BULK AT MOST 1048576: true; the input reads as it did. -/
def playerOrderUptoRow : OpenClaim := { program := "ytkhclggkicnndaadoor", sum := "6d4fa31da6b6cbe867bca5333956753ef2fbc4ac626be9c8038ab6578c2b7644", func := "partita/partitalaw14.PlayerOrder", spec := "playerOrder", inPlace := ["internal/reflectlite.ValueOf", "(internal/reflectlite.Value).Type", "(internal/reflectlite.Value).IsNil", "internal/reflectlite.TypeOf", "(internal/reflectlite.Value).Elem", "(internal/reflectlite.Value).Set"], unfollowed := true, recurses := true, named := ["errors.errorType"], plainKeys := false, apart := false, laid := [("errors.errorType", laid_errors_errorType)], narrowed := true }
def PlayerOrderUptoSaid : Prop := playerOrderUptoRow.holds Tryd.pinned (OpenSpec.upto playerOrderSpec)

/-- 'partitalaw14.PlayerApart', WHERE WHAT IT READS IS OF BULK AT MOST 1048576: true; the input reads as it did. -/
def playerApartUptoRow : OpenClaim := { program := "ytkhclggkicnndaadoor", sum := "6d4fa31da6b6cbe867bca5333956753ef2fbc4ac626be9c8038ab6578c2b7644", func := "partita/partitalaw14.PlayerApart", spec := "playerApart", inPlace := ["internal/reflectlite.ValueOf", "(internal/reflectlite.Value).Type", "(internal/reflectlite.Value).IsNil", "internal/reflectlite.TypeOf", "(internal/reflectlite.Value).Elem", "(internal/reflectlite.Value).Set"], unfollowed := true, recurses := true, named := ["errors.errorType"], plainKeys := false, apart := false, laid := [("errors.errorType", laid_errors_errorType)], narrowed := true }
def PlayerApartUptoSaid : Prop := playerApartUptoRow.holds Tryd.pinned (OpenSpec.upto playerApartSpec)

end Rows
end Go.Proofs.YtkhclggkicnndaaDoor
