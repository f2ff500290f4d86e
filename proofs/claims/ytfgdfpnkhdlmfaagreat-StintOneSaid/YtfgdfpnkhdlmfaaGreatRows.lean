/-
  No cell of these rows narrows 'for every input' (looked for: loops, veiled, ifaces, maps, wideKeys, modest, calm, conditions, laid).
  DERIVED. THE GIVEN ROWS OF THIS SEAT. 12 by the template 'for every input the law returns true; each argument reads behind the call as it read before'; 0 by the template 'total and deterministic' (their statements: YtfgdfpnkhdlmfaaGreatTotals.lean).
  GIVEN WITH THE SEED: the statements are not yours to turn. If you find one false, say at which input.
  Laid BY PROGRAM, IN A SANDBOX (cutbox-rows.mjs): the forced cells as the released guide's own fill.sh prints them over the translation 3821c5cb61913e72… (all of the seat's roots in one cut). By AI agents, Wed Nov 11 2026. No macro, syntax, notation, axiom, sorry.
-/
import Derived.Test.YtfgdfpnkhdlmfaaGreatChecked
import GoSem.Claim
import GoSem.ClaimJoined
import GoSem.ClaimMapViews
import Derived.JoinedTies
import Derived.KernelRfl
namespace Go.Proofs.YtfgdfpnkhdlmfaaGreat
/- THE CELL 'sum', in the pinned program and in every row, IS THE sha256 OF THE DUMP (.gsa) THAT YtfgdfpnkhdlmfaaGreatProg.lean LOADS. Nothing in Lean hashes anything: it is a label: what it is worth is what the hold of that sum in a sandbox is worth. -/
noncomputable def Tryz.pinned : Pinned := { name := "ytfgdfpnkhdlmfaagreat", sum := "3821c5cb61913e72a36fb58f292e2bc451fc7a9ade9b86bc45094eb38c594323", checked := Tryz.checked }
namespace Rows
def none {H : Type} : Left H := { results := [], args := [] }

/-- 'pinfoldlaw02.StintSeasons': WHATEVER THE INPUT: true; the input reads as it did. -/
def stintSeasonsSpec : ChangeSpec := { name := "stintSeasons", fn := fun _ => fun
  | [d1, d2] => { results := [.lit (.bool true)], args := [d1, d2] }
  | _ => none }
def stintSeasonsRow : OpenClaim := { program := "ytfgdfpnkhdlmfaagreat", sum := "3821c5cb61913e72a36fb58f292e2bc451fc7a9ade9b86bc45094eb38c594323", func := "pinfold/pinfoldlaw02.StintSeasons", spec := "stintSeasons", unfollowed := true, recurses := true, plainKeys := false, apart := false }
def StintSeasonsSaid : Prop := stintSeasonsRow.holds Tryz.pinned (OpenSpec.ofChange stintSeasonsSpec)

/-- ITS FALSE NEIGHBOUR: 'it returns false'. Refute it at one input. -/
def stintSeasonsWrong : ChangeSpec := { name := "stintSeasons", fn := fun _ => fun
  | [d1, d2] => { results := [.lit (.bool false)], args := [d1, d2] }
  | _ => none }
def StintSeasonsWrongFalsely : Prop := stintSeasonsRow.holds Tryz.pinned (OpenSpec.ofChange stintSeasonsWrong)

/-- 'pinfoldlaw02.StintRights': WHATEVER THE INPUT: true; the input reads as it did. -/
def stintRightsSpec : ChangeSpec := { name := "stintRights", fn := fun _ => fun
  | [d1, d2] => { results := [.lit (.bool true)], args := [d1, d2] }
  | _ => none }
def stintRightsRow : OpenClaim := { program := "ytfgdfpnkhdlmfaagreat", sum := "3821c5cb61913e72a36fb58f292e2bc451fc7a9ade9b86bc45094eb38c594323", func := "pinfold/pinfoldlaw02.StintRights", spec := "stintRights", unfollowed := true, recurses := true, plainKeys := false, apart := false }
def StintRightsSaid : Prop := stintRightsRow.holds Tryz.pinned (OpenSpec.ofChange stintRightsSpec)

/-- ITS FALSE NEIGHBOUR: 'it returns false'. Refute it at one input. -/
def stintRightsWrong : ChangeSpec := { name := "stintRights", fn := fun _ => fun
  | [d1, d2] => { results := [.lit (.bool false)], args := [d1, d2] }
  | _ => none }
def StintRightsWrongFalsely : Prop := stintRightsRow.holds Tryz.pinned (OpenSpec.ofChange stintRightsWrong)

/-- 'pinfoldlaw02.StintAsKnown': WHATEVER THE INPUT: true; the input reads as it did. -/
def stintAsKnownSpec : ChangeSpec := { name := "stintAsKnown", fn := fun _ => fun
  | [d1, d2, d3] => { results := [.lit (.bool true)], args := [d1, d2, d3] }
  | _ => none }
def stintAsKnownRow : OpenClaim := { program := "ytfgdfpnkhdlmfaagreat", sum := "3821c5cb61913e72a36fb58f292e2bc451fc7a9ade9b86bc45094eb38c594323", func := "pinfold/pinfoldlaw02.StintAsKnown", spec := "stintAsKnown", unfollowed := true, recurses := true, plainKeys := false, apart := false }
def StintAsKnownSaid : Prop := stintAsKnownRow.holds Tryz.pinned (OpenSpec.ofChange stintAsKnownSpec)

/-- ITS FALSE NEIGHBOUR: 'it returns false'. Refute it at one input. -/
def stintAsKnownWrong : ChangeSpec := { name := "stintAsKnown", fn := fun _ => fun
  | [d1, d2, d3] => { results := [.lit (.bool false)], args := [d1, d2, d3] }
  | _ => none }
def StintAsKnownWrongFalsely : Prop := stintAsKnownRow.holds Tryz.pinned (OpenSpec.ofChange stintAsKnownWrong)

/-- 'pinfoldlaw02.StintMost': WHATEVER THE INPUT: true; the input reads as it did. -/
def stintMostSpec : ChangeSpec := { name := "stintMost", fn := fun _ => fun
  | [d1, d2, d3] => { results := [.lit (.bool true)], args := [d1, d2, d3] }
  | _ => none }
def stintMostRow : OpenClaim := { program := "ytfgdfpnkhdlmfaagreat", sum := "3821c5cb61913e72a36fb58f292e2bc451fc7a9ade9b86bc45094eb38c594323", func := "pinfold/pinfoldlaw02.StintMost", spec := "stintMost", unfollowed := true, recurses := true, plainKeys := false, apart := false }
def StintMostSaid : Prop := stintMostRow.holds Tryz.pinned (OpenSpec.ofChange stintMostSpec)

/-- ITS FALSE NEIGHBOUR: 'it returns false'. Refute it at one input. -/
def stintMostWrong : ChangeSpec := { name := "stintMost", fn := fun _ => fun
  | [d1, d2, d3] => { results := [.lit (.bool false)], args := [d1, d2, d3] }
  | _ => none }
def StintMostWrongFalsely : Prop := stintMostRow.holds Tryz.pinned (OpenSpec.ofChange stintMostWrong)

/-- 'pinfoldlaw02.StintLettings': WHATEVER THE INPUT: true; the input reads as it did. -/
def stintLettingsSpec : ChangeSpec := { name := "stintLettings", fn := fun _ => fun
  | [d1, d2] => { results := [.lit (.bool true)], args := [d1, d2] }
  | _ => none }
def stintLettingsRow : OpenClaim := { program := "ytfgdfpnkhdlmfaagreat", sum := "3821c5cb61913e72a36fb58f292e2bc451fc7a9ade9b86bc45094eb38c594323", func := "pinfold/pinfoldlaw02.StintLettings", spec := "stintLettings", unfollowed := true, recurses := true, plainKeys := false, apart := false }
def StintLettingsSaid : Prop := stintLettingsRow.holds Tryz.pinned (OpenSpec.ofChange stintLettingsSpec)

/-- ITS FALSE NEIGHBOUR: 'it returns false'. Refute it at one input. -/
def stintLettingsWrong : ChangeSpec := { name := "stintLettings", fn := fun _ => fun
  | [d1, d2] => { results := [.lit (.bool false)], args := [d1, d2] }
  | _ => none }
def StintLettingsWrongFalsely : Prop := stintLettingsRow.holds Tryz.pinned (OpenSpec.ofChange stintLettingsWrong)

/-- 'pinfoldlaw02.StintHerds': WHATEVER THE INPUT: true; the input reads as it did. -/
def stintHerdsSpec : ChangeSpec := { name := "stintHerds", fn := fun _ => fun
  | [d1, d2, d3] => { results := [.lit (.bool true)], args := [d1, d2, d3] }
  | _ => none }
def stintHerdsRow : OpenClaim := { program := "ytfgdfpnkhdlmfaagreat", sum := "3821c5cb61913e72a36fb58f292e2bc451fc7a9ade9b86bc45094eb38c594323", func := "pinfold/pinfoldlaw02.StintHerds", spec := "stintHerds", unfollowed := true, recurses := true, plainKeys := false, apart := false }
def StintHerdsSaid : Prop := stintHerdsRow.holds Tryz.pinned (OpenSpec.ofChange stintHerdsSpec)

/-- ITS FALSE NEIGHBOUR: 'it returns false'. Refute it at one input. -/
def stintHerdsWrong : ChangeSpec := { name := "stintHerds", fn := fun _ => fun
  | [d1, d2, d3] => { results := [.lit (.bool false)], args := [d1, d2, d3] }
  | _ => none }
def StintHerdsWrongFalsely : Prop := stintHerdsRow.holds Tryz.pinned (OpenSpec.ofChange stintHerdsWrong)

/-- 'pinfoldlaw02.StintMoves': WHATEVER THE INPUT: true; the input reads as it did. -/
def stintMovesSpec : ChangeSpec := { name := "stintMoves", fn := fun _ => fun
  | [d1, d2] => { results := [.lit (.bool true)], args := [d1, d2] }
  | _ => none }
def stintMovesRow : OpenClaim := { program := "ytfgdfpnkhdlmfaagreat", sum := "3821c5cb61913e72a36fb58f292e2bc451fc7a9ade9b86bc45094eb38c594323", func := "pinfold/pinfoldlaw02.StintMoves", spec := "stintMoves", unfollowed := true, recurses := true, plainKeys := false, apart := false }
def StintMovesSaid : Prop := stintMovesRow.holds Tryz.pinned (OpenSpec.ofChange stintMovesSpec)

/-- ITS FALSE NEIGHBOUR: 'it returns false'. Refute it at one input. -/
def stintMovesWrong : ChangeSpec := { name := "stintMoves", fn := fun _ => fun
  | [d1, d2] => { results := [.lit (.bool false)], args := [d1, d2] }
  | _ => none }
def StintMovesWrongFalsely : Prop := stintMovesRow.holds Tryz.pinned (OpenSpec.ofChange stintMovesWrong)

/-- 'pinfoldlaw02.StintConserved': WHATEVER THE INPUT: true; the input reads as it did. -/
def stintConservedSpec : ChangeSpec := { name := "stintConserved", fn := fun _ => fun
  | [d1, d2] => { results := [.lit (.bool true)], args := [d1, d2] }
  | _ => none }
def stintConservedRow : OpenClaim := { program := "ytfgdfpnkhdlmfaagreat", sum := "3821c5cb61913e72a36fb58f292e2bc451fc7a9ade9b86bc45094eb38c594323", func := "pinfold/pinfoldlaw02.StintConserved", spec := "stintConserved", unfollowed := true, recurses := true, plainKeys := false, apart := false }
def StintConservedSaid : Prop := stintConservedRow.holds Tryz.pinned (OpenSpec.ofChange stintConservedSpec)

/-- ITS FALSE NEIGHBOUR: 'it returns false'. Refute it at one input. -/
def stintConservedWrong : ChangeSpec := { name := "stintConserved", fn := fun _ => fun
  | [d1, d2] => { results := [.lit (.bool false)], args := [d1, d2] }
  | _ => none }
def StintConservedWrongFalsely : Prop := stintConservedRow.holds Tryz.pinned (OpenSpec.ofChange stintConservedWrong)

/-- 'pinfoldlaw02.StintKnown': WHATEVER THE INPUT: true; the input reads as it did. -/
def stintKnownSpec : ChangeSpec := { name := "stintKnown", fn := fun _ => fun
  | [d1, d2] => { results := [.lit (.bool true)], args := [d1, d2] }
  | _ => none }
def stintKnownRow : OpenClaim := { program := "ytfgdfpnkhdlmfaagreat", sum := "3821c5cb61913e72a36fb58f292e2bc451fc7a9ade9b86bc45094eb38c594323", func := "pinfold/pinfoldlaw02.StintKnown", spec := "stintKnown", unfollowed := true, recurses := true, plainKeys := false, apart := false }
def StintKnownSaid : Prop := stintKnownRow.holds Tryz.pinned (OpenSpec.ofChange stintKnownSpec)

/-- ITS FALSE NEIGHBOUR: 'it returns false'. Refute it at one input. -/
def stintKnownWrong : ChangeSpec := { name := "stintKnown", fn := fun _ => fun
  | [d1, d2] => { results := [.lit (.bool false)], args := [d1, d2] }
  | _ => none }
def StintKnownWrongFalsely : Prop := stintKnownRow.holds Tryz.pinned (OpenSpec.ofChange stintKnownWrong)

/-- 'pinfoldlaw02.StintChecks': WHATEVER THE INPUT: true; the input reads as it did. -/
def stintChecksSpec : ChangeSpec := { name := "stintChecks", fn := fun _ => fun
  | [d1, d2] => { results := [.lit (.bool true)], args := [d1, d2] }
  | _ => none }
def stintChecksRow : OpenClaim := { program := "ytfgdfpnkhdlmfaagreat", sum := "3821c5cb61913e72a36fb58f292e2bc451fc7a9ade9b86bc45094eb38c594323", func := "pinfold/pinfoldlaw02.StintChecks", spec := "stintChecks", inPlace := ["slices.overlaps[pinfold/api.Deed]"], unfollowed := true, recurses := true, plainKeys := false, apart := false }
def StintChecksSaid : Prop := stintChecksRow.holds Tryz.pinned (OpenSpec.ofChange stintChecksSpec)

/-- ITS FALSE NEIGHBOUR: 'it returns false'. Refute it at one input. -/
def stintChecksWrong : ChangeSpec := { name := "stintChecks", fn := fun _ => fun
  | [d1, d2] => { results := [.lit (.bool false)], args := [d1, d2] }
  | _ => none }
def StintChecksWrongFalsely : Prop := stintChecksRow.holds Tryz.pinned (OpenSpec.ofChange stintChecksWrong)

/-- 'pinfoldlaw02.StintJoins': WHATEVER THE INPUT: true; the input reads as it did. -/
def stintJoinsSpec : ChangeSpec := { name := "stintJoins", fn := fun _ => fun
  | [d1, d2, d3] => { results := [.lit (.bool true)], args := [d1, d2, d3] }
  | _ => none }
def stintJoinsRow : OpenClaim := { program := "ytfgdfpnkhdlmfaagreat", sum := "3821c5cb61913e72a36fb58f292e2bc451fc7a9ade9b86bc45094eb38c594323", func := "pinfold/pinfoldlaw02.StintJoins", spec := "stintJoins", inPlace := ["slices.overlaps[pinfold/api.Deed]"], unfollowed := true, recurses := true, plainKeys := false, apart := false }
def StintJoinsSaid : Prop := stintJoinsRow.holds Tryz.pinned (OpenSpec.ofChange stintJoinsSpec)

/-- ITS FALSE NEIGHBOUR: 'it returns false'. Refute it at one input. -/
def stintJoinsWrong : ChangeSpec := { name := "stintJoins", fn := fun _ => fun
  | [d1, d2, d3] => { results := [.lit (.bool false)], args := [d1, d2, d3] }
  | _ => none }
def StintJoinsWrongFalsely : Prop := stintJoinsRow.holds Tryz.pinned (OpenSpec.ofChange stintJoinsWrong)

/-- 'pinfoldlaw02.StintOne': WHATEVER THE INPUT: true; the input reads as it did. -/
def stintOneSpec : ChangeSpec := { name := "stintOne", fn := fun _ => fun
  | [d1, d2, d3] => { results := [.lit (.bool true)], args := [d1, d2, d3] }
  | _ => none }
def stintOneRow : OpenClaim := { program := "ytfgdfpnkhdlmfaagreat", sum := "3821c5cb61913e72a36fb58f292e2bc451fc7a9ade9b86bc45094eb38c594323", func := "pinfold/pinfoldlaw02.StintOne", spec := "stintOne", inPlace := ["slices.overlaps[pinfold/api.Deed]"], unfollowed := true, recurses := true, plainKeys := false, apart := false }
def StintOneSaid : Prop := stintOneRow.holds Tryz.pinned (OpenSpec.ofChange stintOneSpec)

/-- ITS FALSE NEIGHBOUR: 'it returns false'. Refute it at one input. -/
def stintOneWrong : ChangeSpec := { name := "stintOne", fn := fun _ => fun
  | [d1, d2, d3] => { results := [.lit (.bool false)], args := [d1, d2, d3] }
  | _ => none }
def StintOneWrongFalsely : Prop := stintOneRow.holds Tryz.pinned (OpenSpec.ofChange stintOneWrong)

/- THE SECOND FORM. 'bulk': how many values and letters a reading holds, each counted each time it is reached (what is shared counts as often as it is met; a slice's spare places count too). A statement '..UptoSaid' is the law's where the arguments, and the package variables that the reading takes, are together of bulk at most 1048576: NARROWER than '..Said'. Prove '..Said' where nothing that the law and all that it calls make is longer than what came in: it says more and counts as full. Else prove '..UptoSaid'. A law counts once. -/
mutual
def uptoBulk {H : Type} : DataW H → Nat
  | .lit (.string bytes) => bytes.length + 1
  | .lit _ => 1
  | .nil => 1
  | .ptr d => uptoBulk d + 1
  | .slice elems spare => uptoBulkAll elems + uptoBulkAll spare + 1
  | .agg parts => uptoBulkAll parts + 1
  | .iface _ d => uptoBulk d + 1
  | .map entries => uptoBulkEntries entries + 1
  | .held _ => 1
def uptoBulkAll {H : Type} : List (DataW H) → Nat
  | [] => 0
  | d :: r => uptoBulk d + uptoBulkAll r
def uptoBulkEntries {H : Type} : List (Lit × DataW H) → Nat
  | [] => 0
  | x :: r => uptoBulkEntry x + uptoBulkEntries r
def uptoBulkEntry {H : Type} : Lit × DataW H → Nat
  | (.string bytes, d) => bytes.length + uptoBulk d + 1
  | (_, d) => uptoBulk d + 1
 end
def uptoSmall : (H : Type) → List (DataW H) → Bool := fun _ ds => decide (uptoBulkAll ds ≤ 1048576)
def OpenSpec.upto (s : _root_.Go.ChangeSpec) : _root_.Go.OpenSpec := { _root_.Go.OpenSpec.ofChange s with cond := some uptoSmall }

/-- 'pinfoldlaw02.StintSeasons', WHERE WHAT IT READS IS OF BULK AT MOST 1048576: true; the input reads as it did. -/
def stintSeasonsUptoRow : OpenClaim := { program := "ytfgdfpnkhdlmfaagreat", sum := "3821c5cb61913e72a36fb58f292e2bc451fc7a9ade9b86bc45094eb38c594323", func := "pinfold/pinfoldlaw02.StintSeasons", spec := "stintSeasons", unfollowed := true, recurses := true, plainKeys := false, apart := false, narrowed := true }
def StintSeasonsUptoSaid : Prop := stintSeasonsUptoRow.holds Tryz.pinned (OpenSpec.upto stintSeasonsSpec)

/-- 'pinfoldlaw02.StintRights', WHERE WHAT IT READS IS OF BULK AT MOST 1048576: true; the input reads as it did. -/
def stintRightsUptoRow : OpenClaim := { program := "ytfgdfpnkhdlmfaagreat", sum := "3821c5cb61913e72a36fb58f292e2bc451fc7a9ade9b86bc45094eb38c594323", func := "pinfold/pinfoldlaw02.StintRights", spec := "stintRights", unfollowed := true, recurses := true, plainKeys := false, apart := false, narrowed := true }
def StintRightsUptoSaid : Prop := stintRightsUptoRow.holds Tryz.pinned (OpenSpec.upto stintRightsSpec)

/-- 'pinfoldlaw02.StintAsKnown', WHERE WHAT IT READS IS OF BULK AT MOST 1048576: true; the input reads as it did. -/
def stintAsKnownUptoRow : OpenClaim := { program := "ytfgdfpnkhdlmfaagreat", sum := "3821c5cb61913e72a36fb58f292e2bc451fc7a9ade9b86bc45094eb38c594323", func := "pinfold/pinfoldlaw02.StintAsKnown", spec := "stintAsKnown", unfollowed := true, recurses := true, plainKeys := false, apart := false, narrowed := true }
def StintAsKnownUptoSaid : Prop := stintAsKnownUptoRow.holds Tryz.pinned (OpenSpec.upto stintAsKnownSpec)

/-- 'pinfoldlaw02.StintMost', WHERE WHAT IT READS IS OF BULK AT MOST 1048576: true; the input reads as it did. -/
def stintMostUptoRow : OpenClaim := { program := "ytfgdfpnkhdlmfaagreat", sum := "3821c5cb61913e72a36fb58f292e2bc451fc7a9ade9b86bc45094eb38c594323", func := "pinfold/pinfoldlaw02.StintMost", spec := "stintMost", unfollowed := true, recurses := true, plainKeys := false, apart := false, narrowed := true }
def StintMostUptoSaid : Prop := stintMostUptoRow.holds Tryz.pinned (OpenSpec.upto stintMostSpec)

/-- 'pinfoldlaw02.StintLettings', WHERE WHAT IT READS IS OF BULK AT MOST 1048576: true; the input reads as it did. -/
def stintLettingsUptoRow : OpenClaim := { program := "ytfgdfpnkhdlmfaagreat", sum := "3821c5cb61913e72a36fb58f292e2bc451fc7a9ade9b86bc45094eb38c594323", func := "pinfold/pinfoldlaw02.StintLettings", spec := "stintLettings", unfollowed := true, recurses := true, plainKeys := false, apart := false, narrowed := true }
def StintLettingsUptoSaid : Prop := stintLettingsUptoRow.holds Tryz.pinned (OpenSpec.upto stintLettingsSpec)

/-- 'pinfoldlaw02.StintHerds', WHERE WHAT IT READS IS OF BULK AT MOST 1048576: true; the input reads as it did. -/
def stintHerdsUptoRow : OpenClaim := { program := "ytfgdfpnkhdlmfaagreat", sum := "3821c5cb61913e72a36fb58f292e2bc451fc7a9ade9b86bc45094eb38c594323", func := "pinfold/pinfoldlaw02.StintHerds", spec := "stintHerds", unfollowed := true, recurses := true, plainKeys := false, apart := false, narrowed := true }
def StintHerdsUptoSaid : Prop := stintHerdsUptoRow.holds Tryz.pinned (OpenSpec.upto stintHerdsSpec)

/-- 'pinfoldlaw02.StintMoves', WHERE WHAT IT READS IS OF BULK AT MOST 1048576: true; the input reads as it did. -/
def stintMovesUptoRow : OpenClaim := { program := "ytfgdfpnkhdlmfaagreat", sum := "3821c5cb61913e72a36fb58f292e2bc451fc7a9ade9b86bc45094eb38c594323", func := "pinfold/pinfoldlaw02.StintMoves", spec := "stintMoves", unfollowed := true, recurses := true, plainKeys := false, apart := false, narrowed := true }
def StintMovesUptoSaid : Prop := stintMovesUptoRow.holds Tryz.pinned (OpenSpec.upto stintMovesSpec)

/-- 'pinfoldlaw02.StintConserved', WHERE WHAT IT READS IS OF BULK AT MOST 1048576: true; the input reads as it did. -/
def stintConservedUptoRow : OpenClaim := { program := "ytfgdfpnkhdlmfaagreat", sum := "3821c5cb61913e72a36fb58f292e2bc451fc7a9ade9b86bc45094eb38c594323", func := "pinfold/pinfoldlaw02.StintConserved", spec := "stintConserved", unfollowed := true, recurses := true, plainKeys := false, apart := false, narrowed := true }
def StintConservedUptoSaid : Prop := stintConservedUptoRow.holds Tryz.pinned (OpenSpec.upto stintConservedSpec)

/-- 'pinfoldlaw02.StintKnown', WHERE WHAT IT READS IS OF BULK AT MOST 1048576: true; the input reads as it did. -/
def stintKnownUptoRow : OpenClaim := { program := "ytfgdfpnkhdlmfaagreat", sum := "3821c5cb61913e72a36fb58f292e2bc451fc7a9ade9b86bc45094eb38c594323", func := "pinfold/pinfoldlaw02.StintKnown", spec := "stintKnown", unfollowed := true, recurses := true, plainKeys := false, apart := false, narrowed := true }
def StintKnownUptoSaid : Prop := stintKnownUptoRow.holds Tryz.pinned (OpenSpec.upto stintKnownSpec)

/-- 'pinfoldlaw02.StintChecks', WHERE WHAT IT READS IS OF BULK AT MOST 1048576: true; the input reads as it did. -/
def stintChecksUptoRow : OpenClaim := { program := "ytfgdfpnkhdlmfaagreat", sum := "3821c5cb61913e72a36fb58f292e2bc451fc7a9ade9b86bc45094eb38c594323", func := "pinfold/pinfoldlaw02.StintChecks", spec := "stintChecks", inPlace := ["slices.overlaps[pinfold/api.Deed]"], unfollowed := true, recurses := true, plainKeys := false, apart := false, narrowed := true }
def StintChecksUptoSaid : Prop := stintChecksUptoRow.holds Tryz.pinned (OpenSpec.upto stintChecksSpec)

/-- 'pinfoldlaw02.StintJoins', WHERE WHAT IT READS IS OF BULK AT MOST 1048576: true; the input reads as it did. -/
def stintJoinsUptoRow : OpenClaim := { program := "ytfgdfpnkhdlmfaagreat", sum := "3821c5cb61913e72a36fb58f292e2bc451fc7a9ade9b86bc45094eb38c594323", func := "pinfold/pinfoldlaw02.StintJoins", spec := "stintJoins", inPlace := ["slices.overlaps[pinfold/api.Deed]"], unfollowed := true, recurses := true, plainKeys := false, apart := false, narrowed := true }
def StintJoinsUptoSaid : Prop := stintJoinsUptoRow.holds Tryz.pinned (OpenSpec.upto stintJoinsSpec)

/-- 'pinfoldlaw02.StintOne', WHERE WHAT IT READS IS OF BULK AT MOST 1048576: true; the input reads as it did. -/
def stintOneUptoRow : OpenClaim := { program := "ytfgdfpnkhdlmfaagreat", sum := "3821c5cb61913e72a36fb58f292e2bc451fc7a9ade9b86bc45094eb38c594323", func := "pinfold/pinfoldlaw02.StintOne", spec := "stintOne", inPlace := ["slices.overlaps[pinfold/api.Deed]"], unfollowed := true, recurses := true, plainKeys := false, apart := false, narrowed := true }
def StintOneUptoSaid : Prop := stintOneUptoRow.holds Tryz.pinned (OpenSpec.upto stintOneSpec)

end Rows
end Go.Proofs.YtfgdfpnkhdlmfaaGreat
