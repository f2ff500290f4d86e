/-
  No cell of these rows narrows 'for every input' (looked for: loops, veiled, ifaces, maps, wideKeys, modest, calm, conditions, laid).
  DERIVED. THE GIVEN ROWS OF THIS SEAT. 11 by the template 'for every input the law returns true; each argument reads behind the call as it read before'; 0 by the template 'total and deterministic' (their statements: YtgpnoeojpmaeiaaGreatTotals.lean).
  GIVEN WITH THE SEED: the statements are not yours to turn. If you find one false, say at which input.
  Laid BY PROGRAM, IN A SANDBOX (cutbox-rows.mjs): the forced cells as the released guide's own fill.sh prints them over the translation 1e61b6bb9919796c… (all of the seat's roots in one cut). By AI agents, Wed Nov 11 2026. No macro, syntax, notation, axiom, sorry.
-/
import Derived.Test.YtgpnoeojpmaeiaaGreatChecked
import GoSem.Claim
import GoSem.ClaimJoined
import GoSem.ClaimMapViews
import Derived.JoinedTies
import Derived.KernelRfl
namespace Go.Proofs.YtgpnoeojpmaeiaaGreat
/- THE CELL 'sum', in the pinned program and in every row, IS THE sha256 OF THE DUMP (.gsa) THAT YtgpnoeojpmaeiaaGreatProg.lean LOADS. Nothing in Lean hashes anything: it is a label: what it is worth is what the hold of that sum in a sandbox is worth. -/
noncomputable def Tryz.pinned : Pinned := { name := "ytgpnoeojpmaeiaagreat", sum := "1e61b6bb9919796c582d3b76e4dd3e839b140b7f9d8169b73f703966f7a3aae1", checked := Tryz.checked }
namespace Rows
def none {H : Type} : Left H := { results := [], args := [] }

/-- 'pinfoldlaw07.PlaintMoves': WHATEVER THE INPUT: true; the input reads as it did. -/
def plaintMovesSpec : ChangeSpec := { name := "plaintMoves", fn := fun _ => fun
  | [d1, d2] => { results := [.lit (.bool true)], args := [d1, d2] }
  | _ => none }
def plaintMovesRow : OpenClaim := { program := "ytgpnoeojpmaeiaagreat", sum := "1e61b6bb9919796c582d3b76e4dd3e839b140b7f9d8169b73f703966f7a3aae1", func := "pinfold/pinfoldlaw07.PlaintMoves", spec := "plaintMoves", unfollowed := true, recurses := true, leaving := true, apart := false }
def PlaintMovesSaid : Prop := plaintMovesRow.holds Tryz.pinned (OpenSpec.ofChange plaintMovesSpec)

/-- ITS FALSE NEIGHBOUR: 'it returns false'. Refute it at one input. -/
def plaintMovesWrong : ChangeSpec := { name := "plaintMoves", fn := fun _ => fun
  | [d1, d2] => { results := [.lit (.bool false)], args := [d1, d2] }
  | _ => none }
def PlaintMovesWrongFalsely : Prop := plaintMovesRow.holds Tryz.pinned (OpenSpec.ofChange plaintMovesWrong)

/-- 'pinfoldlaw07.PlaintSpare': WHATEVER THE INPUT: true; the input reads as it did. -/
def plaintSpareSpec : ChangeSpec := { name := "plaintSpare", fn := fun _ => fun
  | [d1, d2] => { results := [.lit (.bool true)], args := [d1, d2] }
  | _ => none }
def plaintSpareRow : OpenClaim := { program := "ytgpnoeojpmaeiaagreat", sum := "1e61b6bb9919796c582d3b76e4dd3e839b140b7f9d8169b73f703966f7a3aae1", func := "pinfold/pinfoldlaw07.PlaintSpare", spec := "plaintSpare", unfollowed := true, recurses := true, leaving := true, apart := false }
def PlaintSpareSaid : Prop := plaintSpareRow.holds Tryz.pinned (OpenSpec.ofChange plaintSpareSpec)

/-- ITS FALSE NEIGHBOUR: 'it returns false'. Refute it at one input. -/
def plaintSpareWrong : ChangeSpec := { name := "plaintSpare", fn := fun _ => fun
  | [d1, d2] => { results := [.lit (.bool false)], args := [d1, d2] }
  | _ => none }
def PlaintSpareWrongFalsely : Prop := plaintSpareRow.holds Tryz.pinned (OpenSpec.ofChange plaintSpareWrong)

/-- 'pinfoldlaw07.PlaintLevies': WHATEVER THE INPUT: true; the input reads as it did. -/
def plaintLeviesSpec : ChangeSpec := { name := "plaintLevies", fn := fun _ => fun
  | [d1, d2, d3] => { results := [.lit (.bool true)], args := [d1, d2, d3] }
  | _ => none }
def plaintLeviesRow : OpenClaim := { program := "ytgpnoeojpmaeiaagreat", sum := "1e61b6bb9919796c582d3b76e4dd3e839b140b7f9d8169b73f703966f7a3aae1", func := "pinfold/pinfoldlaw07.PlaintLevies", spec := "plaintLevies", unfollowed := true, recurses := true, leaving := true, apart := false }
def PlaintLeviesSaid : Prop := plaintLeviesRow.holds Tryz.pinned (OpenSpec.ofChange plaintLeviesSpec)

/-- ITS FALSE NEIGHBOUR: 'it returns false'. Refute it at one input. -/
def plaintLeviesWrong : ChangeSpec := { name := "plaintLevies", fn := fun _ => fun
  | [d1, d2, d3] => { results := [.lit (.bool false)], args := [d1, d2, d3] }
  | _ => none }
def PlaintLeviesWrongFalsely : Prop := plaintLeviesRow.holds Tryz.pinned (OpenSpec.ofChange plaintLeviesWrong)

/-- 'pinfoldlaw07.PlaintShorts': WHATEVER THE INPUT: true; the input reads as it did. -/
def plaintShortsSpec : ChangeSpec := { name := "plaintShorts", fn := fun _ => fun
  | [d1, d2, d3] => { results := [.lit (.bool true)], args := [d1, d2, d3] }
  | _ => none }
def plaintShortsRow : OpenClaim := { program := "ytgpnoeojpmaeiaagreat", sum := "1e61b6bb9919796c582d3b76e4dd3e839b140b7f9d8169b73f703966f7a3aae1", func := "pinfold/pinfoldlaw07.PlaintShorts", spec := "plaintShorts", unfollowed := true, recurses := true, leaving := true, apart := false }
def PlaintShortsSaid : Prop := plaintShortsRow.holds Tryz.pinned (OpenSpec.ofChange plaintShortsSpec)

/-- ITS FALSE NEIGHBOUR: 'it returns false'. Refute it at one input. -/
def plaintShortsWrong : ChangeSpec := { name := "plaintShorts", fn := fun _ => fun
  | [d1, d2, d3] => { results := [.lit (.bool false)], args := [d1, d2, d3] }
  | _ => none }
def PlaintShortsWrongFalsely : Prop := plaintShortsRow.holds Tryz.pinned (OpenSpec.ofChange plaintShortsWrong)

/-- 'pinfoldlaw07.PlaintOnce': WHATEVER THE INPUT: true; the input reads as it did. -/
def plaintOnceSpec : ChangeSpec := { name := "plaintOnce", fn := fun _ => fun
  | [d1, d2] => { results := [.lit (.bool true)], args := [d1, d2] }
  | _ => none }
def plaintOnceRow : OpenClaim := { program := "ytgpnoeojpmaeiaagreat", sum := "1e61b6bb9919796c582d3b76e4dd3e839b140b7f9d8169b73f703966f7a3aae1", func := "pinfold/pinfoldlaw07.PlaintOnce", spec := "plaintOnce", unfollowed := true, recurses := true, leaving := true, apart := false }
def PlaintOnceSaid : Prop := plaintOnceRow.holds Tryz.pinned (OpenSpec.ofChange plaintOnceSpec)

/-- ITS FALSE NEIGHBOUR: 'it returns false'. Refute it at one input. -/
def plaintOnceWrong : ChangeSpec := { name := "plaintOnce", fn := fun _ => fun
  | [d1, d2] => { results := [.lit (.bool false)], args := [d1, d2] }
  | _ => none }
def PlaintOnceWrongFalsely : Prop := plaintOnceRow.holds Tryz.pinned (OpenSpec.ofChange plaintOnceWrong)

/-- 'pinfoldlaw07.PlaintFound': WHATEVER THE INPUT: true; the input reads as it did. -/
def plaintFoundSpec : ChangeSpec := { name := "plaintFound", fn := fun _ => fun
  | [d1, d2] => { results := [.lit (.bool true)], args := [d1, d2] }
  | _ => none }
def plaintFoundRow : OpenClaim := { program := "ytgpnoeojpmaeiaagreat", sum := "1e61b6bb9919796c582d3b76e4dd3e839b140b7f9d8169b73f703966f7a3aae1", func := "pinfold/pinfoldlaw07.PlaintFound", spec := "plaintFound", unfollowed := true, recurses := true, leaving := true, apart := false }
def PlaintFoundSaid : Prop := plaintFoundRow.holds Tryz.pinned (OpenSpec.ofChange plaintFoundSpec)

/-- ITS FALSE NEIGHBOUR: 'it returns false'. Refute it at one input. -/
def plaintFoundWrong : ChangeSpec := { name := "plaintFound", fn := fun _ => fun
  | [d1, d2] => { results := [.lit (.bool false)], args := [d1, d2] }
  | _ => none }
def PlaintFoundWrongFalsely : Prop := plaintFoundRow.holds Tryz.pinned (OpenSpec.ofChange plaintFoundWrong)

/-- 'pinfoldlaw07.PlaintPledges': WHATEVER THE INPUT: true; the input reads as it did. -/
def plaintPledgesSpec : ChangeSpec := { name := "plaintPledges", fn := fun _ => fun
  | [d1, d2, d3] => { results := [.lit (.bool true)], args := [d1, d2, d3] }
  | _ => none }
def plaintPledgesRow : OpenClaim := { program := "ytgpnoeojpmaeiaagreat", sum := "1e61b6bb9919796c582d3b76e4dd3e839b140b7f9d8169b73f703966f7a3aae1", func := "pinfold/pinfoldlaw07.PlaintPledges", spec := "plaintPledges", unfollowed := true, recurses := true, leaving := true, apart := false }
def PlaintPledgesSaid : Prop := plaintPledgesRow.holds Tryz.pinned (OpenSpec.ofChange plaintPledgesSpec)

/-- ITS FALSE NEIGHBOUR: 'it returns false'. Refute it at one input. -/
def plaintPledgesWrong : ChangeSpec := { name := "plaintPledges", fn := fun _ => fun
  | [d1, d2, d3] => { results := [.lit (.bool false)], args := [d1, d2, d3] }
  | _ => none }
def PlaintPledgesWrongFalsely : Prop := plaintPledgesRow.holds Tryz.pinned (OpenSpec.ofChange plaintPledgesWrong)

/-- 'pinfoldlaw07.PlaintStays': WHATEVER THE INPUT: true; the input reads as it did. -/
def plaintStaysSpec : ChangeSpec := { name := "plaintStays", fn := fun _ => fun
  | [d1, d2] => { results := [.lit (.bool true)], args := [d1, d2] }
  | _ => none }
def plaintStaysRow : OpenClaim := { program := "ytgpnoeojpmaeiaagreat", sum := "1e61b6bb9919796c582d3b76e4dd3e839b140b7f9d8169b73f703966f7a3aae1", func := "pinfold/pinfoldlaw07.PlaintStays", spec := "plaintStays", unfollowed := true, recurses := true, leaving := true, apart := false }
def PlaintStaysSaid : Prop := plaintStaysRow.holds Tryz.pinned (OpenSpec.ofChange plaintStaysSpec)

/-- ITS FALSE NEIGHBOUR: 'it returns false'. Refute it at one input. -/
def plaintStaysWrong : ChangeSpec := { name := "plaintStays", fn := fun _ => fun
  | [d1, d2] => { results := [.lit (.bool false)], args := [d1, d2] }
  | _ => none }
def PlaintStaysWrongFalsely : Prop := plaintStaysRow.holds Tryz.pinned (OpenSpec.ofChange plaintStaysWrong)

/-- 'pinfoldlaw07.PlaintOpens': WHATEVER THE INPUT: true; the input reads as it did. -/
def plaintOpensSpec : ChangeSpec := { name := "plaintOpens", fn := fun _ => fun
  | [d1, d2, d3] => { results := [.lit (.bool true)], args := [d1, d2, d3] }
  | _ => none }
def plaintOpensRow : OpenClaim := { program := "ytgpnoeojpmaeiaagreat", sum := "1e61b6bb9919796c582d3b76e4dd3e839b140b7f9d8169b73f703966f7a3aae1", func := "pinfold/pinfoldlaw07.PlaintOpens", spec := "plaintOpens", unfollowed := true, recurses := true, leaving := true, apart := false }
def PlaintOpensSaid : Prop := plaintOpensRow.holds Tryz.pinned (OpenSpec.ofChange plaintOpensSpec)

/-- ITS FALSE NEIGHBOUR: 'it returns false'. Refute it at one input. -/
def plaintOpensWrong : ChangeSpec := { name := "plaintOpens", fn := fun _ => fun
  | [d1, d2, d3] => { results := [.lit (.bool false)], args := [d1, d2, d3] }
  | _ => none }
def PlaintOpensWrongFalsely : Prop := plaintOpensRow.holds Tryz.pinned (OpenSpec.ofChange plaintOpensWrong)

/-- 'pinfoldlaw07.PlaintGood': WHATEVER THE INPUT: true; the input reads as it did. -/
def plaintGoodSpec : ChangeSpec := { name := "plaintGood", fn := fun _ => fun
  | [d1, d2, d3] => { results := [.lit (.bool true)], args := [d1, d2, d3] }
  | _ => none }
def plaintGoodRow : OpenClaim := { program := "ytgpnoeojpmaeiaagreat", sum := "1e61b6bb9919796c582d3b76e4dd3e839b140b7f9d8169b73f703966f7a3aae1", func := "pinfold/pinfoldlaw07.PlaintGood", spec := "plaintGood", unfollowed := true, recurses := true, leaving := true, apart := false }
def PlaintGoodSaid : Prop := plaintGoodRow.holds Tryz.pinned (OpenSpec.ofChange plaintGoodSpec)

/-- ITS FALSE NEIGHBOUR: 'it returns false'. Refute it at one input. -/
def plaintGoodWrong : ChangeSpec := { name := "plaintGood", fn := fun _ => fun
  | [d1, d2, d3] => { results := [.lit (.bool false)], args := [d1, d2, d3] }
  | _ => none }
def PlaintGoodWrongFalsely : Prop := plaintGoodRow.holds Tryz.pinned (OpenSpec.ofChange plaintGoodWrong)

/-- 'pinfoldlaw07.PlaintChecks': WHATEVER THE INPUT: true; the input reads as it did. -/
def plaintChecksSpec : ChangeSpec := { name := "plaintChecks", fn := fun _ => fun
  | [d1, d2] => { results := [.lit (.bool true)], args := [d1, d2] }
  | _ => none }
def plaintChecksRow : OpenClaim := { program := "ytgpnoeojpmaeiaagreat", sum := "1e61b6bb9919796c582d3b76e4dd3e839b140b7f9d8169b73f703966f7a3aae1", func := "pinfold/pinfoldlaw07.PlaintChecks", spec := "plaintChecks", inPlace := ["slices.overlaps[pinfold/api.Plaint]", "slices.overlaps[pinfold/api.Finding]"], unfollowed := true, recurses := true, leaving := true, apart := false }
def PlaintChecksSaid : Prop := plaintChecksRow.holds Tryz.pinned (OpenSpec.ofChange plaintChecksSpec)

/-- ITS FALSE NEIGHBOUR: 'it returns false'. Refute it at one input. -/
def plaintChecksWrong : ChangeSpec := { name := "plaintChecks", fn := fun _ => fun
  | [d1, d2] => { results := [.lit (.bool false)], args := [d1, d2] }
  | _ => none }
def PlaintChecksWrongFalsely : Prop := plaintChecksRow.holds Tryz.pinned (OpenSpec.ofChange plaintChecksWrong)

/- THE SECOND FORM. 'bulk': how many values and letters a reading holds, each counted each time it is reached (what is shared counts as often as it is met; a slice's spare places count too). A statement '..UptoSaid' is the law's where the arguments, and the package variables that the reading takes, are together of bulk at most 1048576: NARROWER than '..Said'. Prove '..Said' where nothing that the law and all that it calls make is longer than what came in: it says more and counts as full. Else prove '..UptoSaid'. A law counts once. -/
mutual
def uptoBulk {H : Type} : DataW H → Nat
  | .lit (.string bytes) => bytes.length + 1
  | .lit _ => 1
  | .nil => 1
  | .ptr d => uptoBulk d + 1
  | .slice elems spare => uptoBulkAll elems + uptoBulkAll spare + 1
  | .agg parts => uptoBulkAll parts + 1
  | .iface _ d => uptoBulk d + 1
  | .map entries => uptoBulkEntries entries + 1
  | .held _ => 1
def uptoBulkAll {H : Type} : List (DataW H) → Nat
  | [] => 0
  | d :: r => uptoBulk d + uptoBulkAll r
def uptoBulkEntries {H : Type} : List (Lit × DataW H) → Nat
  | [] => 0
  | x :: r => uptoBulkEntry x + uptoBulkEntries r
def uptoBulkEntry {H : Type} : Lit × DataW H → Nat
  | (.string bytes, d) => bytes.length + uptoBulk d + 1
  | (_, d) => uptoBulk d + 1
 end
def uptoSmall : (H : Type) → List (DataW H) → Bool := fun _ ds => decide (uptoBulkAll ds ≤ 1048576)
def OpenSpec.upto (s : _root_.Go.ChangeSpec) : _root_.Go.OpenSpec := { _root_.Go.OpenSpec.ofChange s with cond := some uptoSmall }

/-- 'pinfoldlaw07.PlaintMoves', WHERE WHAT IT READS IS OF BULK AT MOST 1048576: true; the input reads as it did. -/
def plaintMovesUptoRow : OpenClaim := { program := "ytgpnoeojpmaeiaagreat", sum := "1e61b6bb9919796c582d3b76e4dd3e839b140b7f9d8169b73f703966f7a3aae1", func := "pinfold/pinfoldlaw07.PlaintMoves", spec := "plaintMoves", unfollowed := true, recurses := true, leaving := true, apart := false, narrowed := true }
def PlaintMovesUptoSaid : Prop := plaintMovesUptoRow.holds Tryz.pinned (OpenSpec.upto plaintMovesSpec)

/-- 'pinfoldlaw07.PlaintSpare', WHERE WHAT IT READS IS OF BULK AT MOST 1048576: true; the input reads as it did. -/
def plaintSpareUptoRow : OpenClaim := { program := "ytgpnoeojpmaeiaagreat", sum := "1e61b6bb9919796c582d3b76e4dd3e839b140b7f9d8169b73f703966f7a3aae1", func := "pinfold/pinfoldlaw07.PlaintSpare", spec := "plaintSpare", unfollowed := true, recurses := true, leaving := true, apart := false, narrowed := true }
def PlaintSpareUptoSaid : Prop := plaintSpareUptoRow.holds Tryz.pinned (OpenSpec.upto plaintSpareSpec)

/-- 'pinfoldlaw07.PlaintLevies', WHERE WHAT IT READS IS OF BULK AT MOST 1048576: true; the input reads as it did. -/
def plaintLeviesUptoRow : OpenClaim := { program := "ytgpnoeojpmaeiaagreat", sum := "1e61b6bb9919796c582d3b76e4dd3e839b140b7f9d8169b73f703966f7a3aae1", func := "pinfold/pinfoldlaw07.PlaintLevies", spec := "plaintLevies", unfollowed := true, recurses := true, leaving := true, apart := false, narrowed := true }
def PlaintLeviesUptoSaid : Prop := plaintLeviesUptoRow.holds Tryz.pinned (OpenSpec.upto plaintLeviesSpec)

/-- 'pinfoldlaw07.PlaintShorts', WHERE WHAT IT READS IS OF BULK AT MOST 1048576: true; the input reads as it did. -/
def plaintShortsUptoRow : OpenClaim := { program := "ytgpnoeojpmaeiaagreat", sum := "1e61b6bb9919796c582d3b76e4dd3e839b140b7f9d8169b73f703966f7a3aae1", func := "pinfold/pinfoldlaw07.PlaintShorts", spec := "plaintShorts", unfollowed := true, recurses := true, leaving := true, apart := false, narrowed := true }
def PlaintShortsUptoSaid : Prop := plaintShortsUptoRow.holds Tryz.pinned (OpenSpec.upto plaintShortsSpec)

/-- 'pinfoldlaw07.PlaintOnce', WHERE WHAT IT READS IS OF BULK AT MOST 1048576: true; the input reads as it did. -/
def plaintOnceUptoRow : OpenClaim := { program := "ytgpnoeojpmaeiaagreat", sum := "1e61b6bb9919796c582d3b76e4dd3e839b140b7f9d8169b73f703966f7a3aae1", func := "pinfold/pinfoldlaw07.PlaintOnce", spec := "plaintOnce", unfollowed := true, recurses := true, leaving := true, apart := false, narrowed := true }
def PlaintOnceUptoSaid : Prop := plaintOnceUptoRow.holds Tryz.pinned (OpenSpec.upto plaintOnceSpec)

/-- 'pinfoldlaw07.PlaintFound', WHERE WHAT IT READS IS OF BULK AT MOST 1048576: true; the input reads as it did. -/
def plaintFoundUptoRow : OpenClaim := { program := "ytgpnoeojpmaeiaagreat", sum := "1e61b6bb9919796c582d3b76e4dd3e839b140b7f9d8169b73f703966f7a3aae1", func := "pinfold/pinfoldlaw07.PlaintFound", spec := "plaintFound", unfollowed := true, recurses := true, leaving := true, apart := false, narrowed := true }
def PlaintFoundUptoSaid : Prop := plaintFoundUptoRow.holds Tryz.pinned (OpenSpec.upto plaintFoundSpec)

/-- 'pinfoldlaw07.PlaintPledges', WHERE WHAT IT READS IS OF BULK AT MOST 1048576: true; the input reads as it did. -/
def plaintPledgesUptoRow : OpenClaim := { program := "ytgpnoeojpmaeiaagreat", sum := "1e61b6bb9919796c582d3b76e4dd3e839b140b7f9d8169b73f703966f7a3aae1", func := "pinfold/pinfoldlaw07.PlaintPledges", spec := "plaintPledges", unfollowed := true, recurses := true, leaving := true, apart := false, narrowed := true }
def PlaintPledgesUptoSaid : Prop := plaintPledgesUptoRow.holds Tryz.pinned (OpenSpec.upto plaintPledgesSpec)

/-- 'pinfoldlaw07.PlaintStays', WHERE WHAT IT READS IS OF BULK AT MOST 1048576: true; the input reads as it did. -/
def plaintStaysUptoRow : OpenClaim := { program := "ytgpnoeojpmaeiaagreat", sum := "1e61b6bb9919796c582d3b76e4dd3e839b140b7f9d8169b73f703966f7a3aae1", func := "pinfold/pinfoldlaw07.PlaintStays", spec := "plaintStays", unfollowed := true, recurses := true, leaving := true, apart := false, narrowed := true }
def PlaintStaysUptoSaid : Prop := plaintStaysUptoRow.holds Tryz.pinned (OpenSpec.upto plaintStaysSpec)

/-- 'pinfoldlaw07.PlaintOpens', WHERE WHAT IT READS IS OF BULK AT MOST 1048576: true; the input reads as it did. -/
def plaintOpensUptoRow : OpenClaim := { program := "ytgpnoeojpmaeiaagreat", sum := "1e61b6bb9919796c582d3b76e4dd3e839b140b7f9d8169b73f703966f7a3aae1", func := "pinfold/pinfoldlaw07.PlaintOpens", spec := "plaintOpens", unfollowed := true, recurses := true, leaving := true, apart := false, narrowed := true }
def PlaintOpensUptoSaid : Prop := plaintOpensUptoRow.holds Tryz.pinned (OpenSpec.upto plaintOpensSpec)

/-- 'pinfoldlaw07.PlaintGood', WHERE WHAT IT READS IS OF BULK AT MOST 1048576: true; the input reads as it did. -/
def plaintGoodUptoRow : OpenClaim := { program := "ytgpnoeojpmaeiaagreat", sum := "1e61b6bb9919796c582d3b76e4dd3e839b140b7f9d8169b73f703966f7a3aae1", func := "pinfold/pinfoldlaw07.PlaintGood", spec := "plaintGood", unfollowed := true, recurses := true, leaving := true, apart := false, narrowed := true }
def PlaintGoodUptoSaid : Prop := plaintGoodUptoRow.holds Tryz.pinned (OpenSpec.upto plaintGoodSpec)

/-- 'pinfoldlaw07.PlaintChecks', WHERE WHAT IT READS IS OF BULK AT MOST 1048576: true; the input reads as it did. -/
def plaintChecksUptoRow : OpenClaim := { program := "ytgpnoeojpmaeiaagreat", sum := "1e61b6bb9919796c582d3b76e4dd3e839b140b7f9d8169b73f703966f7a3aae1", func := "pinfold/pinfoldlaw07.PlaintChecks", spec := "plaintChecks", inPlace := ["slices.overlaps[pinfold/api.Plaint]", "slices.overlaps[pinfold/api.Finding]"], unfollowed := true, recurses := true, leaving := true, apart := false, narrowed := true }
def PlaintChecksUptoSaid : Prop := plaintChecksUptoRow.holds Tryz.pinned (OpenSpec.upto plaintChecksSpec)

end Rows
end Go.Proofs.YtgpnoeojpmaeiaaGreat
