/-
  No cell of these rows narrows 'for every input' (looked for: loops, veiled, ifaces, maps, wideKeys, modest, calm, conditions, laid).
  DERIVED. THE GIVEN ROWS OF THIS SEAT. 11 by the template 'for every input the law returns true; each argument reads behind the call as it read before'; 0 by the template 'total and deterministic' (their statements: YthkfohoccnnphaaTotals.lean).
  GIVEN WITH THE SEED: the statements are not yours to turn. If you find one false, say at which input.
  Laid BY PROGRAM, IN A SANDBOX (cutbox-rows.mjs): the forced cells as the released guide's own fill.sh prints them over the translation ee7d8a995be6cec6… (all of the seat's roots in one cut). By AI agents, Wed Nov 11 2026. No macro, syntax, notation, axiom, sorry.
-/
import Derived.Test.YthkfohoccnnphaaChecked
import GoSem.Claim
import GoSem.ClaimJoined
import GoSem.ClaimMapViews
import Derived.JoinedTies
import Derived.KernelRfl
namespace Go.Proofs.Ythkfohoccnnphaa
/- THE CELL 'sum', in the pinned program and in every row, IS THE sha256 OF THE DUMP (.gsa) THAT YthkfohoccnnphaaProg.lean LOADS. Nothing in Lean hashes anything: it is a label: what it is worth is what the hold of that sum in a sandbox is worth. -/
noncomputable def Try.pinned : Pinned := { name := "ythkfohoccnnphaa", sum := "ee7d8a995be6cec68ac325f96c7173272e1429af0b6149ebb4cf837cc1c435c6", checked := Try.checked }
namespace Rows
def none {H : Type} : Left H := { results := [], args := [] }

/-- 'pinfoldlaw05.PenFodder': WHATEVER THE INPUT: true; the input reads as it did. -/
def penFodderSpec : ChangeSpec := { name := "penFodder", fn := fun _ => fun
  | [d1, d2, d3] => { results := [.lit (.bool true)], args := [d1, d2, d3] }
  | _ => none }
def penFodderRow : OpenClaim := { program := "ythkfohoccnnphaa", sum := "ee7d8a995be6cec68ac325f96c7173272e1429af0b6149ebb4cf837cc1c435c6", func := "pinfold/pinfoldlaw05.PenFodder", spec := "penFodder", unfollowed := true, recurses := true, plainKeys := false, apart := false }
def PenFodderSaid : Prop := penFodderRow.holds Try.pinned (OpenSpec.ofChange penFodderSpec)

/-- ITS FALSE NEIGHBOUR: 'it returns false'. Refute it at one input. -/
def penFodderWrong : ChangeSpec := { name := "penFodder", fn := fun _ => fun
  | [d1, d2, d3] => { results := [.lit (.bool false)], args := [d1, d2, d3] }
  | _ => none }
def PenFodderWrongFalsely : Prop := penFodderRow.holds Try.pinned (OpenSpec.ofChange penFodderWrong)

/-- 'pinfoldlaw05.PenAlike': WHATEVER THE INPUT: true; the input reads as it did. -/
def penAlikeSpec : ChangeSpec := { name := "penAlike", fn := fun _ => fun
  | [d1, d2, d3] => { results := [.lit (.bool true)], args := [d1, d2, d3] }
  | _ => none }
def penAlikeRow : OpenClaim := { program := "ythkfohoccnnphaa", sum := "ee7d8a995be6cec68ac325f96c7173272e1429af0b6149ebb4cf837cc1c435c6", func := "pinfold/pinfoldlaw05.PenAlike", spec := "penAlike", unfollowed := true, recurses := true, plainKeys := false, apart := false }
def PenAlikeSaid : Prop := penAlikeRow.holds Try.pinned (OpenSpec.ofChange penAlikeSpec)

/-- ITS FALSE NEIGHBOUR: 'it returns false'. Refute it at one input. -/
def penAlikeWrong : ChangeSpec := { name := "penAlike", fn := fun _ => fun
  | [d1, d2, d3] => { results := [.lit (.bool false)], args := [d1, d2, d3] }
  | _ => none }
def PenAlikeWrongFalsely : Prop := penAlikeRow.holds Try.pinned (OpenSpec.ofChange penAlikeWrong)

/-- 'pinfoldlaw05.PenFewest': WHATEVER THE INPUT: true; the input reads as it did. -/
def penFewestSpec : ChangeSpec := { name := "penFewest", fn := fun _ => fun
  | [d1, d2, d3] => { results := [.lit (.bool true)], args := [d1, d2, d3] }
  | _ => none }
def penFewestRow : OpenClaim := { program := "ythkfohoccnnphaa", sum := "ee7d8a995be6cec68ac325f96c7173272e1429af0b6149ebb4cf837cc1c435c6", func := "pinfold/pinfoldlaw05.PenFewest", spec := "penFewest", unfollowed := true, recurses := true, plainKeys := false, apart := false }
def PenFewestSaid : Prop := penFewestRow.holds Try.pinned (OpenSpec.ofChange penFewestSpec)

/-- ITS FALSE NEIGHBOUR: 'it returns false'. Refute it at one input. -/
def penFewestWrong : ChangeSpec := { name := "penFewest", fn := fun _ => fun
  | [d1, d2, d3] => { results := [.lit (.bool false)], args := [d1, d2, d3] }
  | _ => none }
def PenFewestWrongFalsely : Prop := penFewestRow.holds Try.pinned (OpenSpec.ofChange penFewestWrong)

/-- 'pinfoldlaw05.PenStays': WHATEVER THE INPUT: true; the input reads as it did. -/
def penStaysSpec : ChangeSpec := { name := "penStays", fn := fun _ => fun
  | [d1, d2, d3] => { results := [.lit (.bool true)], args := [d1, d2, d3] }
  | _ => none }
def penStaysRow : OpenClaim := { program := "ythkfohoccnnphaa", sum := "ee7d8a995be6cec68ac325f96c7173272e1429af0b6149ebb4cf837cc1c435c6", func := "pinfold/pinfoldlaw05.PenStays", spec := "penStays", unfollowed := true, recurses := true, plainKeys := false, apart := false }
def PenStaysSaid : Prop := penStaysRow.holds Try.pinned (OpenSpec.ofChange penStaysSpec)

/-- ITS FALSE NEIGHBOUR: 'it returns false'. Refute it at one input. -/
def penStaysWrong : ChangeSpec := { name := "penStays", fn := fun _ => fun
  | [d1, d2, d3] => { results := [.lit (.bool false)], args := [d1, d2, d3] }
  | _ => none }
def PenStaysWrongFalsely : Prop := penStaysRow.holds Try.pinned (OpenSpec.ofChange penStaysWrong)

/-- 'pinfoldlaw05.PenPlaces': WHATEVER THE INPUT: true; the input reads as it did. -/
def penPlacesSpec : ChangeSpec := { name := "penPlaces", fn := fun _ => fun
  | [d1, d2, d3] => { results := [.lit (.bool true)], args := [d1, d2, d3] }
  | _ => none }
def penPlacesRow : OpenClaim := { program := "ythkfohoccnnphaa", sum := "ee7d8a995be6cec68ac325f96c7173272e1429af0b6149ebb4cf837cc1c435c6", func := "pinfold/pinfoldlaw05.PenPlaces", spec := "penPlaces", unfollowed := true, recurses := true, plainKeys := false, apart := false }
def PenPlacesSaid : Prop := penPlacesRow.holds Try.pinned (OpenSpec.ofChange penPlacesSpec)

/-- ITS FALSE NEIGHBOUR: 'it returns false'. Refute it at one input. -/
def penPlacesWrong : ChangeSpec := { name := "penPlaces", fn := fun _ => fun
  | [d1, d2, d3] => { results := [.lit (.bool false)], args := [d1, d2, d3] }
  | _ => none }
def PenPlacesWrongFalsely : Prop := penPlacesRow.holds Try.pinned (OpenSpec.ofChange penPlacesWrong)

/-- 'pinfoldlaw05.PenMore': WHATEVER THE INPUT: true; the input reads as it did. -/
def penMoreSpec : ChangeSpec := { name := "penMore", fn := fun _ => fun
  | [d1, d2, d3] => { results := [.lit (.bool true)], args := [d1, d2, d3] }
  | _ => none }
def penMoreRow : OpenClaim := { program := "ythkfohoccnnphaa", sum := "ee7d8a995be6cec68ac325f96c7173272e1429af0b6149ebb4cf837cc1c435c6", func := "pinfold/pinfoldlaw05.PenMore", spec := "penMore", unfollowed := true, recurses := true, plainKeys := false, apart := false }
def PenMoreSaid : Prop := penMoreRow.holds Try.pinned (OpenSpec.ofChange penMoreSpec)

/-- ITS FALSE NEIGHBOUR: 'it returns false'. Refute it at one input. -/
def penMoreWrong : ChangeSpec := { name := "penMore", fn := fun _ => fun
  | [d1, d2, d3] => { results := [.lit (.bool false)], args := [d1, d2, d3] }
  | _ => none }
def PenMoreWrongFalsely : Prop := penMoreRow.holds Try.pinned (OpenSpec.ofChange penMoreWrong)

/-- 'pinfoldlaw05.PenChecks': WHATEVER THE INPUT: true; the input reads as it did. -/
def penChecksSpec : ChangeSpec := { name := "penChecks", fn := fun _ => fun
  | [d1, d2, d3] => { results := [.lit (.bool true)], args := [d1, d2, d3] }
  | _ => none }
def penChecksRow : OpenClaim := { program := "ythkfohoccnnphaa", sum := "ee7d8a995be6cec68ac325f96c7173272e1429af0b6149ebb4cf837cc1c435c6", func := "pinfold/pinfoldlaw05.PenChecks", spec := "penChecks", unfollowed := true, recurses := true, plainKeys := false, apart := false }
def PenChecksSaid : Prop := penChecksRow.holds Try.pinned (OpenSpec.ofChange penChecksSpec)

/-- ITS FALSE NEIGHBOUR: 'it returns false'. Refute it at one input. -/
def penChecksWrong : ChangeSpec := { name := "penChecks", fn := fun _ => fun
  | [d1, d2, d3] => { results := [.lit (.bool false)], args := [d1, d2, d3] }
  | _ => none }
def PenChecksWrongFalsely : Prop := penChecksRow.holds Try.pinned (OpenSpec.ofChange penChecksWrong)

/-- 'pinfoldlaw05.PenOrder': WHATEVER THE INPUT: true; the input reads as it did. -/
def penOrderSpec : ChangeSpec := { name := "penOrder", fn := fun _ => fun
  | [d1, d2, d3] => { results := [.lit (.bool true)], args := [d1, d2, d3] }
  | _ => none }
def penOrderRow : OpenClaim := { program := "ythkfohoccnnphaa", sum := "ee7d8a995be6cec68ac325f96c7173272e1429af0b6149ebb4cf837cc1c435c6", func := "pinfold/pinfoldlaw05.PenOrder", spec := "penOrder", unfollowed := true, recurses := true, plainKeys := false, apart := false }
def PenOrderSaid : Prop := penOrderRow.holds Try.pinned (OpenSpec.ofChange penOrderSpec)

/-- ITS FALSE NEIGHBOUR: 'it returns false'. Refute it at one input. -/
def penOrderWrong : ChangeSpec := { name := "penOrder", fn := fun _ => fun
  | [d1, d2, d3] => { results := [.lit (.bool false)], args := [d1, d2, d3] }
  | _ => none }
def PenOrderWrongFalsely : Prop := penOrderRow.holds Try.pinned (OpenSpec.ofChange penOrderWrong)

/-- 'pinfoldlaw05.PenRefuses': WHATEVER THE INPUT: true; the input reads as it did. -/
def penRefusesSpec : ChangeSpec := { name := "penRefuses", fn := fun _ => fun
  | [d1, d2, d3] => { results := [.lit (.bool true)], args := [d1, d2, d3] }
  | _ => none }
def penRefusesRow : OpenClaim := { program := "ythkfohoccnnphaa", sum := "ee7d8a995be6cec68ac325f96c7173272e1429af0b6149ebb4cf837cc1c435c6", func := "pinfold/pinfoldlaw05.PenRefuses", spec := "penRefuses", unfollowed := true, recurses := true, plainKeys := false, apart := false }
def PenRefusesSaid : Prop := penRefusesRow.holds Try.pinned (OpenSpec.ofChange penRefusesSpec)

/-- ITS FALSE NEIGHBOUR: 'it returns false'. Refute it at one input. -/
def penRefusesWrong : ChangeSpec := { name := "penRefuses", fn := fun _ => fun
  | [d1, d2, d3] => { results := [.lit (.bool false)], args := [d1, d2, d3] }
  | _ => none }
def PenRefusesWrongFalsely : Prop := penRefusesRow.holds Try.pinned (OpenSpec.ofChange penRefusesWrong)

/-- 'pinfoldlaw05.PenEither': WHATEVER THE INPUT: true; the input reads as it did. -/
def penEitherSpec : ChangeSpec := { name := "penEither", fn := fun _ => fun
  | [d1, d2, d3] => { results := [.lit (.bool true)], args := [d1, d2, d3] }
  | _ => none }
def penEitherRow : OpenClaim := { program := "ythkfohoccnnphaa", sum := "ee7d8a995be6cec68ac325f96c7173272e1429af0b6149ebb4cf837cc1c435c6", func := "pinfold/pinfoldlaw05.PenEither", spec := "penEither", unfollowed := true, recurses := true, plainKeys := false, apart := false }
def PenEitherSaid : Prop := penEitherRow.holds Try.pinned (OpenSpec.ofChange penEitherSpec)

/-- ITS FALSE NEIGHBOUR: 'it returns false'. Refute it at one input. -/
def penEitherWrong : ChangeSpec := { name := "penEither", fn := fun _ => fun
  | [d1, d2, d3] => { results := [.lit (.bool false)], args := [d1, d2, d3] }
  | _ => none }
def PenEitherWrongFalsely : Prop := penEitherRow.holds Try.pinned (OpenSpec.ofChange penEitherWrong)

/-- 'pinfoldlaw05.PenMoves': WHATEVER THE INPUT: true; the input reads as it did. -/
def penMovesSpec : ChangeSpec := { name := "penMoves", fn := fun _ => fun
  | [d1, d2, d3] => { results := [.lit (.bool true)], args := [d1, d2, d3] }
  | _ => none }
def penMovesRow : OpenClaim := { program := "ythkfohoccnnphaa", sum := "ee7d8a995be6cec68ac325f96c7173272e1429af0b6149ebb4cf837cc1c435c6", func := "pinfold/pinfoldlaw05.PenMoves", spec := "penMoves", unfollowed := true, recurses := true, plainKeys := false, apart := false }
def PenMovesSaid : Prop := penMovesRow.holds Try.pinned (OpenSpec.ofChange penMovesSpec)

/-- ITS FALSE NEIGHBOUR: 'it returns false'. Refute it at one input. -/
def penMovesWrong : ChangeSpec := { name := "penMoves", fn := fun _ => fun
  | [d1, d2, d3] => { results := [.lit (.bool false)], args := [d1, d2, d3] }
  | _ => none }
def PenMovesWrongFalsely : Prop := penMovesRow.holds Try.pinned (OpenSpec.ofChange penMovesWrong)

/- THE SECOND FORM. 'bulk': how many values and letters a reading holds, each counted each time it is reached (what is shared counts as often as it is met; a slice's spare places count too). A statement '..UptoSaid' is the law's where the arguments, and the package variables that the reading takes, are together of bulk at most 1048576: NARROWER than '..Said'. Prove '..Said' where nothing that the law and all that it calls make is longer than what came in: it says more and counts as full. Else prove '..UptoSaid'. A law counts once. -/
mutual
def uptoBulk {H : Type} : DataW H → Nat
  | .lit (.string bytes) => bytes.length + 1
  | .lit _ => 1
  | .nil => 1
  | .ptr d => uptoBulk d + 1
  | .slice elems spare => uptoBulkAll elems + uptoBulkAll spare + 1
  | .agg parts => uptoBulkAll parts + 1
  | .iface _ d => uptoBulk d + 1
  | .map entries => uptoBulkEntries entries + 1
  | .held _ => 1
def uptoBulkAll {H : Type} : List (DataW H) → Nat
  | [] => 0
  | d :: r => uptoBulk d + uptoBulkAll r
def uptoBulkEntries {H : Type} : List (Lit × DataW H) → Nat
  | [] => 0
  | x :: r => uptoBulkEntry x + uptoBulkEntries r
def uptoBulkEntry {H : Type} : Lit × DataW H → Nat
  | (.string bytes, d) => bytes.length + uptoBulk d + 1
  | (_, d) => uptoBulk d + 1
 end
def uptoSmall : (H : Type) → List (DataW H) → Bool := fun _ ds => decide (uptoBulkAll ds ≤ 1048576)
def OpenSpec.upto (s : _root_.Go.ChangeSpec) : _root_.Go.OpenSpec := { _root_.Go.OpenSpec.ofChange s with cond := some uptoSmall }

/-- 'pinfoldlaw05.PenFodder', WHERE WHAT IT READS IS OF BULK AT MOST 1048576: true; the input reads as it did. -/
def penFodderUptoRow : OpenClaim := { program := "ythkfohoccnnphaa", sum := "ee7d8a995be6cec68ac325f96c7173272e1429af0b6149ebb4cf837cc1c435c6", func := "pinfold/pinfoldlaw05.PenFodder", spec := "penFodder", unfollowed := true, recurses := true, plainKeys := false, apart := false, narrowed := true }
def PenFodderUptoSaid : Prop := penFodderUptoRow.holds Try.pinned (OpenSpec.upto penFodderSpec)

/-- 'pinfoldlaw05.PenAlike', WHERE WHAT IT READS IS OF BULK AT MOST 1048576: true; the input reads as it did. -/
def penAlikeUptoRow : OpenClaim := { program := "ythkfohoccnnphaa", sum := "ee7d8a995be6cec68ac325f96c7173272e1429af0b6149ebb4cf837cc1c435c6", func := "pinfold/pinfoldlaw05.PenAlike", spec := "penAlike", unfollowed := true, recurses := true, plainKeys := false, apart := false, narrowed := true }
def PenAlikeUptoSaid : Prop := penAlikeUptoRow.holds Try.pinned (OpenSpec.upto penAlikeSpec)

/-- 'pinfoldlaw05.PenFewest', WHERE WHAT IT READS IS OF BULK AT MOST 1048576: true; the input reads as it did. -/
def penFewestUptoRow : OpenClaim := { program := "ythkfohoccnnphaa", sum := "ee7d8a995be6cec68ac325f96c7173272e1429af0b6149ebb4cf837cc1c435c6", func := "pinfold/pinfoldlaw05.PenFewest", spec := "penFewest", unfollowed := true, recurses := true, plainKeys := false, apart := false, narrowed := true }
def PenFewestUptoSaid : Prop := penFewestUptoRow.holds Try.pinned (OpenSpec.upto penFewestSpec)

/-- 'pinfoldlaw05.PenStays', WHERE WHAT IT READS IS OF BULK AT MOST 1048576: true; the input reads as it did. -/
def penStaysUptoRow : OpenClaim := { program := "ythkfohoccnnphaa", sum := "ee7d8a995be6cec68ac325f96c7173272e1429af0b6149ebb4cf837cc1c435c6", func := "pinfold/pinfoldlaw05.PenStays", spec := "penStays", unfollowed := true, recurses := true, plainKeys := false, apart := false, narrowed := true }
def PenStaysUptoSaid : Prop := penStaysUptoRow.holds Try.pinned (OpenSpec.upto penStaysSpec)

/-- 'pinfoldlaw05.PenPlaces', WHERE WHAT IT READS IS OF BULK AT MOST 1048576: true; the input reads as it did. -/
def penPlacesUptoRow : OpenClaim := { program := "ythkfohoccnnphaa", sum := "ee7d8a995be6cec68ac325f96c7173272e1429af0b6149ebb4cf837cc1c435c6", func := "pinfold/pinfoldlaw05.PenPlaces", spec := "penPlaces", unfollowed := true, recurses := true, plainKeys := false, apart := false, narrowed := true }
def PenPlacesUptoSaid : Prop := penPlacesUptoRow.holds Try.pinned (OpenSpec.upto penPlacesSpec)

/-- 'pinfoldlaw05.PenMore', WHERE WHAT IT READS IS OF BULK AT MOST 1048576: true; the input reads as it did. -/
def penMoreUptoRow : OpenClaim := { program := "ythkfohoccnnphaa", sum := "ee7d8a995be6cec68ac325f96c7173272e1429af0b6149ebb4cf837cc1c435c6", func := "pinfold/pinfoldlaw05.PenMore", spec := "penMore", unfollowed := true, recurses := true, plainKeys := false, apart := false, narrowed := true }
def PenMoreUptoSaid : Prop := penMoreUptoRow.holds Try.pinned (OpenSpec.upto penMoreSpec)

/-- 'pinfoldlaw05.PenChecks', WHERE WHAT IT READS IS OF BULK AT MOST 1048576: true; the input reads as it did. -/
def penChecksUptoRow : OpenClaim := { program := "ythkfohoccnnphaa", sum := "ee7d8a995be6cec68ac325f96c7173272e1429af0b6149ebb4cf837cc1c435c6", func := "pinfold/pinfoldlaw05.PenChecks", spec := "penChecks", unfollowed := true, recurses := true, plainKeys := false, apart := false, narrowed := true }
def PenChecksUptoSaid : Prop := penChecksUptoRow.holds Try.pinned (OpenSpec.upto penChecksSpec)

/-- 'pinfoldlaw05.PenOrder', WHERE WHAT IT READS IS OF BULK AT MOST 1048576: true; the input reads as it did. -/
def penOrderUptoRow : OpenClaim := { program := "ythkfohoccnnphaa", sum := "ee7d8a995be6cec68ac325f96c7173272e1429af0b6149ebb4cf837cc1c435c6", func := "pinfold/pinfoldlaw05.PenOrder", spec := "penOrder", unfollowed := true, recurses := true, plainKeys := false, apart := false, narrowed := true }
def PenOrderUptoSaid : Prop := penOrderUptoRow.holds Try.pinned (OpenSpec.upto penOrderSpec)

/-- 'pinfoldlaw05.PenRefuses', WHERE WHAT IT READS IS OF BULK AT MOST 1048576: true; the input reads as it did. -/
def penRefusesUptoRow : OpenClaim := { program := "ythkfohoccnnphaa", sum := "ee7d8a995be6cec68ac325f96c7173272e1429af0b6149ebb4cf837cc1c435c6", func := "pinfold/pinfoldlaw05.PenRefuses", spec := "penRefuses", unfollowed := true, recurses := true, plainKeys := false, apart := false, narrowed := true }
def PenRefusesUptoSaid : Prop := penRefusesUptoRow.holds Try.pinned (OpenSpec.upto penRefusesSpec)

/-- 'pinfoldlaw05.PenEither', WHERE WHAT IT READS IS OF BULK AT MOST 1048576: true; the input reads as it did. -/
def penEitherUptoRow : OpenClaim := { program := "ythkfohoccnnphaa", sum := "ee7d8a995be6cec68ac325f96c7173272e1429af0b6149ebb4cf837cc1c435c6", func := "pinfold/pinfoldlaw05.PenEither", spec := "penEither", unfollowed := true, recurses := true, plainKeys := false, apart := false, narrowed := true }
def PenEitherUptoSaid : Prop := penEitherUptoRow.holds Try.pinned (OpenSpec.upto penEitherSpec)

/-- 'pinfoldlaw05.PenMoves', WHERE WHAT IT READS IS OF BULK AT MOST 1048576: true; the input reads as it did. -/
def penMovesUptoRow : OpenClaim := { program := "ythkfohoccnnphaa", sum := "ee7d8a995be6cec68ac325f96c7173272e1429af0b6149ebb4cf837cc1c435c6", func := "pinfold/pinfoldlaw05.PenMoves", spec := "penMoves", unfollowed := true, recurses := true, plainKeys := false, apart := false, narrowed := true }
def PenMovesUptoSaid : Prop := penMovesUptoRow.holds Try.pinned (OpenSpec.upto penMovesSpec)

end Rows
end Go.Proofs.Ythkfohoccnnphaa
