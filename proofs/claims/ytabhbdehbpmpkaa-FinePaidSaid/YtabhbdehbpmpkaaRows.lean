/-
  No cell of these rows narrows 'for every input' (looked for: loops, veiled, ifaces, maps, wideKeys, modest, calm, conditions, laid).
  DERIVED. THE GIVEN ROWS OF THIS SEAT. 9 by the template 'for every input the law returns true; each argument reads behind the call as it read before'; 0 by the template 'total and deterministic' (their statements: YtabhbdehbpmpkaaTotals.lean).
  GIVEN WITH THE SEED: the statements are not yours to turn. If you find one false, say at which input.
  Laid BY PROGRAM, IN A SANDBOX (cutbox-rows.mjs): the forced cells as the released guide's own fill.sh prints them over the translation 57c006cfb795fb45… (all of the seat's roots in one cut). By AI agents, Wed Nov 11 2026. No macro, syntax, notation, axiom, sorry.
-/
import Derived.Test.YtabhbdehbpmpkaaChecked
import GoSem.Claim
import GoSem.ClaimJoined
import GoSem.ClaimMapViews
import Derived.JoinedTies
import Derived.KernelRfl
namespace Go.Proofs.Ytabhbdehbpmpkaa
/- THE CELL 'sum', in the pinned program and in every row, IS THE sha256 OF THE DUMP (.gsa) THAT YtabhbdehbpmpkaaProg.lean LOADS. Nothing in Lean hashes anything: it is a label: what it is worth is what the hold of that sum in a sandbox is worth. -/
noncomputable def Try.pinned : Pinned := { name := "ytabhbdehbpmpkaa", sum := "57c006cfb795fb458e1bd82a6bf2ee89537d9ca063201979d2a318ac6aa26a80", checked := Try.checked }
namespace Rows
def none {H : Type} : Left H := { results := [], args := [] }

/-- 'pinfoldlaw06.FineChecks': WHATEVER THE INPUT: true; the input reads as it did. -/
def fineChecksSpec : ChangeSpec := { name := "fineChecks", fn := fun _ => fun
  | [d1, d2] => { results := [.lit (.bool true)], args := [d1, d2] }
  | _ => none }
def fineChecksRow : OpenClaim := { program := "ytabhbdehbpmpkaa", sum := "57c006cfb795fb458e1bd82a6bf2ee89537d9ca063201979d2a318ac6aa26a80", func := "pinfold/pinfoldlaw06.FineChecks", spec := "fineChecks", inPlace := ["slices.overlaps[pinfold/api.Note]"], unfollowed := true, recurses := true, plainKeys := false, apart := false }
def FineChecksSaid : Prop := fineChecksRow.holds Try.pinned (OpenSpec.ofChange fineChecksSpec)

/-- ITS FALSE NEIGHBOUR: 'it returns false'. Refute it at one input. -/
def fineChecksWrong : ChangeSpec := { name := "fineChecks", fn := fun _ => fun
  | [d1, d2] => { results := [.lit (.bool false)], args := [d1, d2] }
  | _ => none }
def FineChecksWrongFalsely : Prop := fineChecksRow.holds Try.pinned (OpenSpec.ofChange fineChecksWrong)

/-- 'pinfoldlaw06.FineStops': WHATEVER THE INPUT: true; the input reads as it did. -/
def fineStopsSpec : ChangeSpec := { name := "fineStops", fn := fun _ => fun
  | [d1, d2, d3] => { results := [.lit (.bool true)], args := [d1, d2, d3] }
  | _ => none }
def fineStopsRow : OpenClaim := { program := "ytabhbdehbpmpkaa", sum := "57c006cfb795fb458e1bd82a6bf2ee89537d9ca063201979d2a318ac6aa26a80", func := "pinfold/pinfoldlaw06.FineStops", spec := "fineStops", inPlace := ["slices.overlaps[pinfold/api.Note]"], unfollowed := true, recurses := true, plainKeys := false, apart := false }
def FineStopsSaid : Prop := fineStopsRow.holds Try.pinned (OpenSpec.ofChange fineStopsSpec)

/-- ITS FALSE NEIGHBOUR: 'it returns false'. Refute it at one input. -/
def fineStopsWrong : ChangeSpec := { name := "fineStops", fn := fun _ => fun
  | [d1, d2, d3] => { results := [.lit (.bool false)], args := [d1, d2, d3] }
  | _ => none }
def FineStopsWrongFalsely : Prop := fineStopsRow.holds Try.pinned (OpenSpec.ofChange fineStopsWrong)

/-- 'pinfoldlaw06.FineJudged': WHATEVER THE INPUT: true; the input reads as it did. -/
def fineJudgedSpec : ChangeSpec := { name := "fineJudged", fn := fun _ => fun
  | [d1, d2] => { results := [.lit (.bool true)], args := [d1, d2] }
  | _ => none }
def fineJudgedRow : OpenClaim := { program := "ytabhbdehbpmpkaa", sum := "57c006cfb795fb458e1bd82a6bf2ee89537d9ca063201979d2a318ac6aa26a80", func := "pinfold/pinfoldlaw06.FineJudged", spec := "fineJudged", inPlace := ["slices.overlaps[pinfold/api.Note]"], unfollowed := true, recurses := true, plainKeys := false, apart := false }
def FineJudgedSaid : Prop := fineJudgedRow.holds Try.pinned (OpenSpec.ofChange fineJudgedSpec)

/-- ITS FALSE NEIGHBOUR: 'it returns false'. Refute it at one input. -/
def fineJudgedWrong : ChangeSpec := { name := "fineJudged", fn := fun _ => fun
  | [d1, d2] => { results := [.lit (.bool false)], args := [d1, d2] }
  | _ => none }
def FineJudgedWrongFalsely : Prop := fineJudgedRow.holds Try.pinned (OpenSpec.ofChange fineJudgedWrong)

/-- 'pinfoldlaw06.FineLots': WHATEVER THE INPUT: true; the input reads as it did. -/
def fineLotsSpec : ChangeSpec := { name := "fineLots", fn := fun _ => fun
  | [d1, d2, d3] => { results := [.lit (.bool true)], args := [d1, d2, d3] }
  | _ => none }
def fineLotsRow : OpenClaim := { program := "ytabhbdehbpmpkaa", sum := "57c006cfb795fb458e1bd82a6bf2ee89537d9ca063201979d2a318ac6aa26a80", func := "pinfold/pinfoldlaw06.FineLots", spec := "fineLots", inPlace := ["slices.overlaps[pinfold/api.Note]"], unfollowed := true, recurses := true, plainKeys := false, apart := false }
def FineLotsSaid : Prop := fineLotsRow.holds Try.pinned (OpenSpec.ofChange fineLotsSpec)

/-- ITS FALSE NEIGHBOUR: 'it returns false'. Refute it at one input. -/
def fineLotsWrong : ChangeSpec := { name := "fineLots", fn := fun _ => fun
  | [d1, d2, d3] => { results := [.lit (.bool false)], args := [d1, d2, d3] }
  | _ => none }
def FineLotsWrongFalsely : Prop := fineLotsRow.holds Try.pinned (OpenSpec.ofChange fineLotsWrong)

/-- 'pinfoldlaw06.FineKnown': WHATEVER THE INPUT: true; the input reads as it did. -/
def fineKnownSpec : ChangeSpec := { name := "fineKnown", fn := fun _ => fun
  | [d1, d2, d3] => { results := [.lit (.bool true)], args := [d1, d2, d3] }
  | _ => none }
def fineKnownRow : OpenClaim := { program := "ytabhbdehbpmpkaa", sum := "57c006cfb795fb458e1bd82a6bf2ee89537d9ca063201979d2a318ac6aa26a80", func := "pinfold/pinfoldlaw06.FineKnown", spec := "fineKnown", inPlace := ["slices.overlaps[pinfold/api.Note]"], unfollowed := true, recurses := true, plainKeys := false, apart := false }
def FineKnownSaid : Prop := fineKnownRow.holds Try.pinned (OpenSpec.ofChange fineKnownSpec)

/-- ITS FALSE NEIGHBOUR: 'it returns false'. Refute it at one input. -/
def fineKnownWrong : ChangeSpec := { name := "fineKnown", fn := fun _ => fun
  | [d1, d2, d3] => { results := [.lit (.bool false)], args := [d1, d2, d3] }
  | _ => none }
def FineKnownWrongFalsely : Prop := fineKnownRow.holds Try.pinned (OpenSpec.ofChange fineKnownWrong)

/-- 'pinfoldlaw06.FineCounts': WHATEVER THE INPUT: true; the input reads as it did. -/
def fineCountsSpec : ChangeSpec := { name := "fineCounts", fn := fun _ => fun
  | [d1, d2, d3] => { results := [.lit (.bool true)], args := [d1, d2, d3] }
  | _ => none }
def fineCountsRow : OpenClaim := { program := "ytabhbdehbpmpkaa", sum := "57c006cfb795fb458e1bd82a6bf2ee89537d9ca063201979d2a318ac6aa26a80", func := "pinfold/pinfoldlaw06.FineCounts", spec := "fineCounts", inPlace := ["slices.overlaps[pinfold/api.Note]"], unfollowed := true, recurses := true, plainKeys := false, apart := false }
def FineCountsSaid : Prop := fineCountsRow.holds Try.pinned (OpenSpec.ofChange fineCountsSpec)

/-- ITS FALSE NEIGHBOUR: 'it returns false'. Refute it at one input. -/
def fineCountsWrong : ChangeSpec := { name := "fineCounts", fn := fun _ => fun
  | [d1, d2, d3] => { results := [.lit (.bool false)], args := [d1, d2, d3] }
  | _ => none }
def FineCountsWrongFalsely : Prop := fineCountsRow.holds Try.pinned (OpenSpec.ofChange fineCountsWrong)

/-- 'pinfoldlaw06.FinePosts': WHATEVER THE INPUT: true; the input reads as it did. -/
def finePostsSpec : ChangeSpec := { name := "finePosts", fn := fun _ => fun
  | [d1, d2, d3] => { results := [.lit (.bool true)], args := [d1, d2, d3] }
  | _ => none }
def finePostsRow : OpenClaim := { program := "ytabhbdehbpmpkaa", sum := "57c006cfb795fb458e1bd82a6bf2ee89537d9ca063201979d2a318ac6aa26a80", func := "pinfold/pinfoldlaw06.FinePosts", spec := "finePosts", inPlace := ["slices.overlaps[pinfold/api.Note]"], unfollowed := true, recurses := true, plainKeys := false, apart := false }
def FinePostsSaid : Prop := finePostsRow.holds Try.pinned (OpenSpec.ofChange finePostsSpec)

/-- ITS FALSE NEIGHBOUR: 'it returns false'. Refute it at one input. -/
def finePostsWrong : ChangeSpec := { name := "finePosts", fn := fun _ => fun
  | [d1, d2, d3] => { results := [.lit (.bool false)], args := [d1, d2, d3] }
  | _ => none }
def FinePostsWrongFalsely : Prop := finePostsRow.holds Try.pinned (OpenSpec.ofChange finePostsWrong)

/-- 'pinfoldlaw06.FinePaid': WHATEVER THE INPUT: true; the input reads as it did. -/
def finePaidSpec : ChangeSpec := { name := "finePaid", fn := fun _ => fun
  | [d1, d2] => { results := [.lit (.bool true)], args := [d1, d2] }
  | _ => none }
def finePaidRow : OpenClaim := { program := "ytabhbdehbpmpkaa", sum := "57c006cfb795fb458e1bd82a6bf2ee89537d9ca063201979d2a318ac6aa26a80", func := "pinfold/pinfoldlaw06.FinePaid", spec := "finePaid", inPlace := ["slices.overlaps[pinfold/api.Note]"], unfollowed := true, recurses := true, plainKeys := false, apart := false }
def FinePaidSaid : Prop := finePaidRow.holds Try.pinned (OpenSpec.ofChange finePaidSpec)

/-- ITS FALSE NEIGHBOUR: 'it returns false'. Refute it at one input. -/
def finePaidWrong : ChangeSpec := { name := "finePaid", fn := fun _ => fun
  | [d1, d2] => { results := [.lit (.bool false)], args := [d1, d2] }
  | _ => none }
def FinePaidWrongFalsely : Prop := finePaidRow.holds Try.pinned (OpenSpec.ofChange finePaidWrong)

/-- 'pinfoldlaw06.FineEnds': WHATEVER THE INPUT: true; the input reads as it did. -/
def fineEndsSpec : ChangeSpec := { name := "fineEnds", fn := fun _ => fun
  | [d1, d2] => { results := [.lit (.bool true)], args := [d1, d2] }
  | _ => none }
def fineEndsRow : OpenClaim := { program := "ytabhbdehbpmpkaa", sum := "57c006cfb795fb458e1bd82a6bf2ee89537d9ca063201979d2a318ac6aa26a80", func := "pinfold/pinfoldlaw06.FineEnds", spec := "fineEnds", inPlace := ["slices.overlaps[pinfold/api.Note]"], unfollowed := true, recurses := true, plainKeys := false, apart := false }
def FineEndsSaid : Prop := fineEndsRow.holds Try.pinned (OpenSpec.ofChange fineEndsSpec)

/-- ITS FALSE NEIGHBOUR: 'it returns false'. Refute it at one input. -/
def fineEndsWrong : ChangeSpec := { name := "fineEnds", fn := fun _ => fun
  | [d1, d2] => { results := [.lit (.bool false)], args := [d1, d2] }
  | _ => none }
def FineEndsWrongFalsely : Prop := fineEndsRow.holds Try.pinned (OpenSpec.ofChange fineEndsWrong)

/- THE SECOND FORM. 'bulk': how many values and letters a reading holds, each counted each time it is reached (what is shared counts as often as it is met; a slice's spare places count too). A statement '..UptoSaid' is the law's where the arguments, and the package variables that the reading takes, are together of bulk at most 1048576: NARROWER than '..Said'. Prove '..Said' where nothing that the law and all that it calls make is longer than what came in: it says more and counts as full. Else prove '..UptoSaid'. A law counts once. -/
mutual
def uptoBulk {H : Type} : DataW H → Nat
  | .lit (.string bytes) => bytes.length + 1
  | .lit _ => 1
  | .nil => 1
  | .ptr d => uptoBulk d + 1
  | .slice elems spare => uptoBulkAll elems + uptoBulkAll spare + 1
  | .agg parts => uptoBulkAll parts + 1
  | .iface _ d => uptoBulk d + 1
  | .map entries => uptoBulkEntries entries + 1
  | .held _ => 1
def uptoBulkAll {H : Type} : List (DataW H) → Nat
  | [] => 0
  | d :: r => uptoBulk d + uptoBulkAll r
def uptoBulkEntries {H : Type} : List (Lit × DataW H) → Nat
  | [] => 0
  | x :: r => uptoBulkEntry x + uptoBulkEntries r
def uptoBulkEntry {H : Type} : Lit × DataW H → Nat
  | (.string bytes, d) => bytes.length + uptoBulk d + 1
  | (_, d) => uptoBulk d + 1
 end
def uptoSmall : (H : Type) → List (DataW H) → Bool := fun _ ds => decide (uptoBulkAll ds ≤ 1048576)
def OpenSpec.upto (s : _root_.Go.ChangeSpec) : _root_.Go.OpenSpec := { _root_.Go.OpenSpec.ofChange s with cond := some uptoSmall }

/-- 'pinfoldlaw06.FineChecks', WHERE WHAT IT READS IS OF BULK AT MOST 1048576: true; the input reads as it did. -/
def fineChecksUptoRow : OpenClaim := { program := "ytabhbdehbpmpkaa", sum := "57c006cfb795fb458e1bd82a6bf2ee89537d9ca063201979d2a318ac6aa26a80", func := "pinfold/pinfoldlaw06.FineChecks", spec := "fineChecks", inPlace := ["slices.overlaps[pinfold/api.Note]"], unfollowed := true, recurses := true, plainKeys := false, apart := false, narrowed := true }
def FineChecksUptoSaid : Prop := fineChecksUptoRow.holds Try.pinned (OpenSpec.upto fineChecksSpec)

/-- 'pinfoldlaw06.FineStops', WHERE WHAT IT READS IS OF BULK AT MOST 1048576: true; the input reads as it did. -/
def fineStopsUptoRow : OpenClaim := { program := "ytabhbdehbpmpkaa", sum := "57c006cfb795fb458e1bd82a6bf2ee89537d9ca063201979d2a318ac6aa26a80", func := "pinfold/pinfoldlaw06.FineStops", spec := "fineStops", inPlace := ["slices.overlaps[pinfold/api.Note]"], unfollowed := true, recurses := true, plainKeys := false, apart := false, narrowed := true }
def FineStopsUptoSaid : Prop := fineStopsUptoRow.holds Try.pinned (OpenSpec.upto fineStopsSpec)

/-- 'pinfoldlaw06.FineJudged', WHERE WHAT IT READS IS OF BULK AT MOST 1048576: true; the input reads as it did. -/
def fineJudgedUptoRow : OpenClaim := { program := "ytabhbdehbpmpkaa", sum := "57c006cfb795fb458e1bd82a6bf2ee89537d9ca063201979d2a318ac6aa26a80", func := "pinfold/pinfoldlaw06.FineJudged", spec := "fineJudged", inPlace := ["slices.overlaps[pinfold/api.Note]"], unfollowed := true, recurses := true, plainKeys := false, apart := false, narrowed := true }
def FineJudgedUptoSaid : Prop := fineJudgedUptoRow.holds Try.pinned (OpenSpec.upto fineJudgedSpec)

/-- 'pinfoldlaw06.FineLots', WHERE WHAT IT READS IS OF BULK AT MOST 1048576: true; the input reads as it did. -/
def fineLotsUptoRow : OpenClaim := { program := "ytabhbdehbpmpkaa", sum := "57c006cfb795fb458e1bd82a6bf2ee89537d9ca063201979d2a318ac6aa26a80", func := "pinfold/pinfoldlaw06.FineLots", spec := "fineLots", inPlace := ["slices.overlaps[pinfold/api.Note]"], unfollowed := true, recurses := true, plainKeys := false, apart := false, narrowed := true }
def FineLotsUptoSaid : Prop := fineLotsUptoRow.holds Try.pinned (OpenSpec.upto fineLotsSpec)

/-- 'pinfoldlaw06.FineKnown', WHERE WHAT IT READS IS OF BULK AT MOST 1048576: true; the input reads as it did. -/
def fineKnownUptoRow : OpenClaim := { program := "ytabhbdehbpmpkaa", sum := "57c006cfb795fb458e1bd82a6bf2ee89537d9ca063201979d2a318ac6aa26a80", func := "pinfold/pinfoldlaw06.FineKnown", spec := "fineKnown", inPlace := ["slices.overlaps[pinfold/api.Note]"], unfollowed := true, recurses := true, plainKeys := false, apart := false, narrowed := true }
def FineKnownUptoSaid : Prop := fineKnownUptoRow.holds Try.pinned (OpenSpec.upto fineKnownSpec)

/-- 'pinfoldlaw06.FineCounts', WHERE WHAT IT READS IS OF BULK AT MOST 1048576: true; the input reads as it did. -/
def fineCountsUptoRow : OpenClaim := { program := "ytabhbdehbpmpkaa", sum := "57c006cfb795fb458e1bd82a6bf2ee89537d9ca063201979d2a318ac6aa26a80", func := "pinfold/pinfoldlaw06.FineCounts", spec := "fineCounts", inPlace := ["slices.overlaps[pinfold/api.Note]"], unfollowed := true, recurses := true, plainKeys := false, apart := false, narrowed := true }
def FineCountsUptoSaid : Prop := fineCountsUptoRow.holds Try.pinned (OpenSpec.upto fineCountsSpec)

/-- 'pinfoldlaw06.FinePosts', WHERE WHAT IT READS IS OF BULK AT MOST 1048576: true; the input reads as it did. -/
def finePostsUptoRow : OpenClaim := { program := "ytabhbdehbpmpkaa", sum := "57c006cfb795fb458e1bd82a6bf2ee89537d9ca063201979d2a318ac6aa26a80", func := "pinfold/pinfoldlaw06.FinePosts", spec := "finePosts", inPlace := ["slices.overlaps[pinfold/api.Note]"], unfollowed := true, recurses := true, plainKeys := false, apart := false, narrowed := true }
def FinePostsUptoSaid : Prop := finePostsUptoRow.holds Try.pinned (OpenSpec.upto finePostsSpec)

/-- 'pinfoldlaw06.FinePaid', WHERE WHAT IT READS IS OF BULK AT MOST 1048576: true; the input reads as it did. -/
def finePaidUptoRow : OpenClaim := { program := "ytabhbdehbpmpkaa", sum := "57c006cfb795fb458e1bd82a6bf2ee89537d9ca063201979d2a318ac6aa26a80", func := "pinfold/pinfoldlaw06.FinePaid", spec := "finePaid", inPlace := ["slices.overlaps[pinfold/api.Note]"], unfollowed := true, recurses := true, plainKeys := false, apart := false, narrowed := true }
def FinePaidUptoSaid : Prop := finePaidUptoRow.holds Try.pinned (OpenSpec.upto finePaidSpec)

/-- 'pinfoldlaw06.FineEnds', WHERE WHAT IT READS IS OF BULK AT MOST 1048576: true; the input reads as it did. -/
def fineEndsUptoRow : OpenClaim := { program := "ytabhbdehbpmpkaa", sum := "57c006cfb795fb458e1bd82a6bf2ee89537d9ca063201979d2a318ac6aa26a80", func := "pinfold/pinfoldlaw06.FineEnds", spec := "fineEnds", inPlace := ["slices.overlaps[pinfold/api.Note]"], unfollowed := true, recurses := true, plainKeys := false, apart := false, narrowed := true }
def FineEndsUptoSaid : Prop := fineEndsUptoRow.holds Try.pinned (OpenSpec.upto fineEndsSpec)

end Rows
end Go.Proofs.Ytabhbdehbpmpkaa
