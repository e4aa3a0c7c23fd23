/-
  No cell of these rows narrows 'for every input' (looked for: loops, veiled, ifaces, maps, wideKeys, modest, calm, conditions, laid).
  DERIVED. THE GIVEN ROWS OF THIS SEAT. 17 by the template 'for every input the law returns true; each argument reads behind the call as it read before'; 0 by the template 'total and deterministic' (their statements: YtandgbpbabmdfaaTotals.lean).
  GIVEN WITH THE SEED: the statements are not yours to turn. If you find one false, say at which input.
  Laid BY PROGRAM, IN A SANDBOX (cutbox-rows.mjs): the forced cells as the released guide's own fill.sh prints them over the translation 30d02b3e0e324a79… (all of the seat's roots in one cut). By AI agents, Wed Nov 11 2026. No macro, syntax, notation, axiom, sorry.
-/
import Derived.Test.YtandgbpbabmdfaaChecked
import GoSem.Claim
import GoSem.ClaimJoined
import GoSem.ClaimMapViews
import Derived.JoinedTies
import Derived.KernelRfl
namespace Go.Proofs.Ytandgbpbabmdfaa
/- THE CELL 'sum', in the pinned program and in every row, IS THE sha256 OF THE DUMP (.gsa) THAT YtandgbpbabmdfaaProg.lean LOADS. Nothing in Lean hashes anything: it is a label: what it is worth is what the hold of that sum in a sandbox is worth. -/
noncomputable def Try.pinned : Pinned := { name := "ytandgbpbabmdfaa", sum := "30d02b3e0e324a797739c40fc5813ef5111c99e9327ec7c9eaf89eb6c49dfbd8", checked := Try.checked }
namespace Rows
def none {H : Type} : Left H := { results := [], args := [] }

/-- 'hectarelaw3.TriTells': WHATEVER THE INPUT: true; the input reads as it did. -/
def triTellsSpec : ChangeSpec := { name := "triTells", fn := fun _ => fun
  | [d1, d2, d3, d4, d5, d6] => { results := [.lit (.bool true)], args := [d1, d2, d3, d4, d5, d6] }
  | _ => none }
def triTellsRow : OpenClaim := { program := "ytandgbpbabmdfaa", sum := "30d02b3e0e324a797739c40fc5813ef5111c99e9327ec7c9eaf89eb6c49dfbd8", func := "hectare/hectarelaw3.TriTells", spec := "triTells", apart := false }
def TriTellsSaid : Prop := triTellsRow.holds Try.pinned (OpenSpec.ofChange triTellsSpec)

/-- ITS FALSE NEIGHBOUR: 'it returns false'. Refute it at one input. -/
def triTellsWrong : ChangeSpec := { name := "triTells", fn := fun _ => fun
  | [d1, d2, d3, d4, d5, d6] => { results := [.lit (.bool false)], args := [d1, d2, d3, d4, d5, d6] }
  | _ => none }
def TriTellsWrongFalsely : Prop := triTellsRow.holds Try.pinned (OpenSpec.ofChange triTellsWrong)

/-- 'hectarelaw3.TriOne': WHATEVER THE INPUT: true; the input reads as it did. -/
def triOneSpec : ChangeSpec := { name := "triOne", fn := fun _ => fun
  | [d1, d2, d3] => { results := [.lit (.bool true)], args := [d1, d2, d3] }
  | _ => none }
def triOneRow : OpenClaim := { program := "ytandgbpbabmdfaa", sum := "30d02b3e0e324a797739c40fc5813ef5111c99e9327ec7c9eaf89eb6c49dfbd8", func := "hectare/hectarelaw3.TriOne", spec := "triOne", apart := false }
def TriOneSaid : Prop := triOneRow.holds Try.pinned (OpenSpec.ofChange triOneSpec)

/-- ITS FALSE NEIGHBOUR: 'it returns false'. Refute it at one input. -/
def triOneWrong : ChangeSpec := { name := "triOne", fn := fun _ => fun
  | [d1, d2, d3] => { results := [.lit (.bool false)], args := [d1, d2, d3] }
  | _ => none }
def TriOneWrongFalsely : Prop := triOneRow.holds Try.pinned (OpenSpec.ofChange triOneWrong)

/-- 'hectarelaw3.TriParts': WHATEVER THE INPUT: true; the input reads as it did. -/
def triPartsSpec : ChangeSpec := { name := "triParts", fn := fun _ => fun
  | [d1, d2, d3, d4] => { results := [.lit (.bool true)], args := [d1, d2, d3, d4] }
  | _ => none }
def triPartsRow : OpenClaim := { program := "ytandgbpbabmdfaa", sum := "30d02b3e0e324a797739c40fc5813ef5111c99e9327ec7c9eaf89eb6c49dfbd8", func := "hectare/hectarelaw3.TriParts", spec := "triParts", apart := false }
def TriPartsSaid : Prop := triPartsRow.holds Try.pinned (OpenSpec.ofChange triPartsSpec)

/-- ITS FALSE NEIGHBOUR: 'it returns false'. Refute it at one input. -/
def triPartsWrong : ChangeSpec := { name := "triParts", fn := fun _ => fun
  | [d1, d2, d3, d4] => { results := [.lit (.bool false)], args := [d1, d2, d3, d4] }
  | _ => none }
def TriPartsWrongFalsely : Prop := triPartsRow.holds Try.pinned (OpenSpec.ofChange triPartsWrong)

/-- 'hectarelaw3.TriOrder': WHATEVER THE INPUT: true; the input reads as it did. -/
def triOrderSpec : ChangeSpec := { name := "triOrder", fn := fun _ => fun
  | [d1, d2, d3] => { results := [.lit (.bool true)], args := [d1, d2, d3] }
  | _ => none }
def triOrderRow : OpenClaim := { program := "ytandgbpbabmdfaa", sum := "30d02b3e0e324a797739c40fc5813ef5111c99e9327ec7c9eaf89eb6c49dfbd8", func := "hectare/hectarelaw3.TriOrder", spec := "triOrder", apart := false }
def TriOrderSaid : Prop := triOrderRow.holds Try.pinned (OpenSpec.ofChange triOrderSpec)

/-- ITS FALSE NEIGHBOUR: 'it returns false'. Refute it at one input. -/
def triOrderWrong : ChangeSpec := { name := "triOrder", fn := fun _ => fun
  | [d1, d2, d3] => { results := [.lit (.bool false)], args := [d1, d2, d3] }
  | _ => none }
def TriOrderWrongFalsely : Prop := triOrderRow.holds Try.pinned (OpenSpec.ofChange triOrderWrong)

/-- 'hectarelaw3.TriInside': WHATEVER THE INPUT: true; the input reads as it did. -/
def triInsideSpec : ChangeSpec := { name := "triInside", fn := fun _ => fun
  | [d1, d2, d3, d4] => { results := [.lit (.bool true)], args := [d1, d2, d3, d4] }
  | _ => none }
def triInsideRow : OpenClaim := { program := "ytandgbpbabmdfaa", sum := "30d02b3e0e324a797739c40fc5813ef5111c99e9327ec7c9eaf89eb6c49dfbd8", func := "hectare/hectarelaw3.TriInside", spec := "triInside", apart := false }
def TriInsideSaid : Prop := triInsideRow.holds Try.pinned (OpenSpec.ofChange triInsideSpec)

/-- ITS FALSE NEIGHBOUR: 'it returns false'. Refute it at one input. -/
def triInsideWrong : ChangeSpec := { name := "triInside", fn := fun _ => fun
  | [d1, d2, d3, d4] => { results := [.lit (.bool false)], args := [d1, d2, d3, d4] }
  | _ => none }
def TriInsideWrongFalsely : Prop := triInsideRow.holds Try.pinned (OpenSpec.ofChange triInsideWrong)

/-- 'hectarelaw4.ReachTells': WHATEVER THE INPUT: true; the input reads as it did. -/
def reachTellsSpec : ChangeSpec := { name := "reachTells", fn := fun _ => fun
  | [d1, d2, d3, d4] => { results := [.lit (.bool true)], args := [d1, d2, d3, d4] }
  | _ => none }
def reachTellsRow : OpenClaim := { program := "ytandgbpbabmdfaa", sum := "30d02b3e0e324a797739c40fc5813ef5111c99e9327ec7c9eaf89eb6c49dfbd8", func := "hectare/hectarelaw4.ReachTells", spec := "reachTells", inPlace := ["math/bits.Sub64"], apart := false }
def ReachTellsSaid : Prop := reachTellsRow.holds Try.pinned (OpenSpec.ofChange reachTellsSpec)

/-- ITS FALSE NEIGHBOUR: 'it returns false'. Refute it at one input. -/
def reachTellsWrong : ChangeSpec := { name := "reachTells", fn := fun _ => fun
  | [d1, d2, d3, d4] => { results := [.lit (.bool false)], args := [d1, d2, d3, d4] }
  | _ => none }
def ReachTellsWrongFalsely : Prop := reachTellsRow.holds Try.pinned (OpenSpec.ofChange reachTellsWrong)

/-- 'hectarelaw4.ReachPoints': WHATEVER THE INPUT: true; the input reads as it did. -/
def reachPointsSpec : ChangeSpec := { name := "reachPoints", fn := fun _ => fun
  | [d1, d2, d3, d4, d5] => { results := [.lit (.bool true)], args := [d1, d2, d3, d4, d5] }
  | _ => none }
def reachPointsRow : OpenClaim := { program := "ytandgbpbabmdfaa", sum := "30d02b3e0e324a797739c40fc5813ef5111c99e9327ec7c9eaf89eb6c49dfbd8", func := "hectare/hectarelaw4.ReachPoints", spec := "reachPoints", inPlace := ["math/bits.Sub64"], apart := false }
def ReachPointsSaid : Prop := reachPointsRow.holds Try.pinned (OpenSpec.ofChange reachPointsSpec)

/-- ITS FALSE NEIGHBOUR: 'it returns false'. Refute it at one input. -/
def reachPointsWrong : ChangeSpec := { name := "reachPoints", fn := fun _ => fun
  | [d1, d2, d3, d4, d5] => { results := [.lit (.bool false)], args := [d1, d2, d3, d4, d5] }
  | _ => none }
def ReachPointsWrongFalsely : Prop := reachPointsRow.holds Try.pinned (OpenSpec.ofChange reachPointsWrong)

/-- 'hectarelaw4.ReachEdges': WHATEVER THE INPUT: true; the input reads as it did. -/
def reachEdgesSpec : ChangeSpec := { name := "reachEdges", fn := fun _ => fun
  | [d1, d2, d3, d4, d5, d6] => { results := [.lit (.bool true)], args := [d1, d2, d3, d4, d5, d6] }
  | _ => none }
def reachEdgesRow : OpenClaim := { program := "ytandgbpbabmdfaa", sum := "30d02b3e0e324a797739c40fc5813ef5111c99e9327ec7c9eaf89eb6c49dfbd8", func := "hectare/hectarelaw4.ReachEdges", spec := "reachEdges", inPlace := ["math/bits.Sub64"], apart := false }
def ReachEdgesSaid : Prop := reachEdgesRow.holds Try.pinned (OpenSpec.ofChange reachEdgesSpec)

/-- ITS FALSE NEIGHBOUR: 'it returns false'. Refute it at one input. -/
def reachEdgesWrong : ChangeSpec := { name := "reachEdges", fn := fun _ => fun
  | [d1, d2, d3, d4, d5, d6] => { results := [.lit (.bool false)], args := [d1, d2, d3, d4, d5, d6] }
  | _ => none }
def ReachEdgesWrongFalsely : Prop := reachEdgesRow.holds Try.pinned (OpenSpec.ofChange reachEdgesWrong)

/-- 'hectarelaw4.ReachParts': WHATEVER THE INPUT: true; the input reads as it did. -/
def reachPartsSpec : ChangeSpec := { name := "reachParts", fn := fun _ => fun
  | [d1, d2, d3, d4, d5, d6, d7] => { results := [.lit (.bool true)], args := [d1, d2, d3, d4, d5, d6, d7] }
  | _ => none }
def reachPartsRow : OpenClaim := { program := "ytandgbpbabmdfaa", sum := "30d02b3e0e324a797739c40fc5813ef5111c99e9327ec7c9eaf89eb6c49dfbd8", func := "hectare/hectarelaw4.ReachParts", spec := "reachParts", inPlace := ["math/bits.Sub64"], apart := false }
def ReachPartsSaid : Prop := reachPartsRow.holds Try.pinned (OpenSpec.ofChange reachPartsSpec)

/-- ITS FALSE NEIGHBOUR: 'it returns false'. Refute it at one input. -/
def reachPartsWrong : ChangeSpec := { name := "reachParts", fn := fun _ => fun
  | [d1, d2, d3, d4, d5, d6, d7] => { results := [.lit (.bool false)], args := [d1, d2, d3, d4, d5, d6, d7] }
  | _ => none }
def ReachPartsWrongFalsely : Prop := reachPartsRow.holds Try.pinned (OpenSpec.ofChange reachPartsWrong)

/-- 'hectarelaw4.ReachCuts': WHATEVER THE INPUT: true; the input reads as it did. -/
def reachCutsSpec : ChangeSpec := { name := "reachCuts", fn := fun _ => fun
  | [d1, d2, d3] => { results := [.lit (.bool true)], args := [d1, d2, d3] }
  | _ => none }
def reachCutsRow : OpenClaim := { program := "ytandgbpbabmdfaa", sum := "30d02b3e0e324a797739c40fc5813ef5111c99e9327ec7c9eaf89eb6c49dfbd8", func := "hectare/hectarelaw4.ReachCuts", spec := "reachCuts", inPlace := ["math/bits.Sub64"], apart := false }
def ReachCutsSaid : Prop := reachCutsRow.holds Try.pinned (OpenSpec.ofChange reachCutsSpec)

/-- ITS FALSE NEIGHBOUR: 'it returns false'. Refute it at one input. -/
def reachCutsWrong : ChangeSpec := { name := "reachCuts", fn := fun _ => fun
  | [d1, d2, d3] => { results := [.lit (.bool false)], args := [d1, d2, d3] }
  | _ => none }
def ReachCutsWrongFalsely : Prop := reachCutsRow.holds Try.pinned (OpenSpec.ofChange reachCutsWrong)

/-- 'hectarelaw2.ExactTells': WHATEVER THE INPUT: true; the input reads as it did. -/
def exactTellsSpec : ChangeSpec := { name := "exactTells", fn := fun _ => fun
  | [d1, d2, d3, d4] => { results := [.lit (.bool true)], args := [d1, d2, d3, d4] }
  | _ => none }
def exactTellsRow : OpenClaim := { program := "ytandgbpbabmdfaa", sum := "30d02b3e0e324a797739c40fc5813ef5111c99e9327ec7c9eaf89eb6c49dfbd8", func := "hectare/hectarelaw2.ExactTells", spec := "exactTells", inPlace := ["math/bits.Sub64", "math/bits.Add64"], unfollowed := true, recurses := true, apart := false }
def ExactTellsSaid : Prop := exactTellsRow.holds Try.pinned (OpenSpec.ofChange exactTellsSpec)

/-- ITS FALSE NEIGHBOUR: 'it returns false'. Refute it at one input. -/
def exactTellsWrong : ChangeSpec := { name := "exactTells", fn := fun _ => fun
  | [d1, d2, d3, d4] => { results := [.lit (.bool false)], args := [d1, d2, d3, d4] }
  | _ => none }
def ExactTellsWrongFalsely : Prop := exactTellsRow.holds Try.pinned (OpenSpec.ofChange exactTellsWrong)

/-- 'hectarelaw2.ExactTurns': WHATEVER THE INPUT: true; the input reads as it did. -/
def exactTurnsSpec : ChangeSpec := { name := "exactTurns", fn := fun _ => fun
  | [d1, d2, d3, d4, d5, d6] => { results := [.lit (.bool true)], args := [d1, d2, d3, d4, d5, d6] }
  | _ => none }
def exactTurnsRow : OpenClaim := { program := "ytandgbpbabmdfaa", sum := "30d02b3e0e324a797739c40fc5813ef5111c99e9327ec7c9eaf89eb6c49dfbd8", func := "hectare/hectarelaw2.ExactTurns", spec := "exactTurns", inPlace := ["math/bits.Sub64", "math/bits.Add64"], unfollowed := true, recurses := true, apart := false }
def ExactTurnsSaid : Prop := exactTurnsRow.holds Try.pinned (OpenSpec.ofChange exactTurnsSpec)

/-- ITS FALSE NEIGHBOUR: 'it returns false'. Refute it at one input. -/
def exactTurnsWrong : ChangeSpec := { name := "exactTurns", fn := fun _ => fun
  | [d1, d2, d3, d4, d5, d6] => { results := [.lit (.bool false)], args := [d1, d2, d3, d4, d5, d6] }
  | _ => none }
def ExactTurnsWrongFalsely : Prop := exactTurnsRow.holds Try.pinned (OpenSpec.ofChange exactTurnsWrong)

/-- 'hectarelaw2.ExactTies': WHATEVER THE INPUT: true; the input reads as it did. -/
def exactTiesSpec : ChangeSpec := { name := "exactTies", fn := fun _ => fun
  | [d1, d2, d3, d4] => { results := [.lit (.bool true)], args := [d1, d2, d3, d4] }
  | _ => none }
def exactTiesRow : OpenClaim := { program := "ytandgbpbabmdfaa", sum := "30d02b3e0e324a797739c40fc5813ef5111c99e9327ec7c9eaf89eb6c49dfbd8", func := "hectare/hectarelaw2.ExactTies", spec := "exactTies", inPlace := ["math/bits.Sub64", "math/bits.Add64"], unfollowed := true, recurses := true, apart := false }
def ExactTiesSaid : Prop := exactTiesRow.holds Try.pinned (OpenSpec.ofChange exactTiesSpec)

/-- ITS FALSE NEIGHBOUR: 'it returns false'. Refute it at one input. -/
def exactTiesWrong : ChangeSpec := { name := "exactTies", fn := fun _ => fun
  | [d1, d2, d3, d4] => { results := [.lit (.bool false)], args := [d1, d2, d3, d4] }
  | _ => none }
def ExactTiesWrongFalsely : Prop := exactTiesRow.holds Try.pinned (OpenSpec.ofChange exactTiesWrong)

/-- 'hectarelaw2.ExactMeets': WHATEVER THE INPUT: true; the input reads as it did. -/
def exactMeetsSpec : ChangeSpec := { name := "exactMeets", fn := fun _ => fun
  | [d1, d2, d3, d4] => { results := [.lit (.bool true)], args := [d1, d2, d3, d4] }
  | _ => none }
def exactMeetsRow : OpenClaim := { program := "ytandgbpbabmdfaa", sum := "30d02b3e0e324a797739c40fc5813ef5111c99e9327ec7c9eaf89eb6c49dfbd8", func := "hectare/hectarelaw2.ExactMeets", spec := "exactMeets", inPlace := ["math/bits.Sub64", "math/bits.Add64"], unfollowed := true, recurses := true, apart := false }
def ExactMeetsSaid : Prop := exactMeetsRow.holds Try.pinned (OpenSpec.ofChange exactMeetsSpec)

/-- ITS FALSE NEIGHBOUR: 'it returns false'. Refute it at one input. -/
def exactMeetsWrong : ChangeSpec := { name := "exactMeets", fn := fun _ => fun
  | [d1, d2, d3, d4] => { results := [.lit (.bool false)], args := [d1, d2, d3, d4] }
  | _ => none }
def ExactMeetsWrongFalsely : Prop := exactMeetsRow.holds Try.pinned (OpenSpec.ofChange exactMeetsWrong)

/-- 'hectarelaw2.ExactLines': WHATEVER THE INPUT: true; the input reads as it did. -/
def exactLinesSpec : ChangeSpec := { name := "exactLines", fn := fun _ => fun
  | [d1, d2, d3, d4] => { results := [.lit (.bool true)], args := [d1, d2, d3, d4] }
  | _ => none }
def exactLinesRow : OpenClaim := { program := "ytandgbpbabmdfaa", sum := "30d02b3e0e324a797739c40fc5813ef5111c99e9327ec7c9eaf89eb6c49dfbd8", func := "hectare/hectarelaw2.ExactLines", spec := "exactLines", inPlace := ["math/bits.Sub64", "math/bits.Add64"], unfollowed := true, recurses := true, apart := false }
def ExactLinesSaid : Prop := exactLinesRow.holds Try.pinned (OpenSpec.ofChange exactLinesSpec)

/-- ITS FALSE NEIGHBOUR: 'it returns false'. Refute it at one input. -/
def exactLinesWrong : ChangeSpec := { name := "exactLines", fn := fun _ => fun
  | [d1, d2, d3, d4] => { results := [.lit (.bool false)], args := [d1, d2, d3, d4] }
  | _ => none }
def ExactLinesWrongFalsely : Prop := exactLinesRow.holds Try.pinned (OpenSpec.ofChange exactLinesWrong)

/-- 'hectarelaw2.ExactCircles': WHATEVER THE INPUT: true; the input reads as it did. -/
def exactCirclesSpec : ChangeSpec := { name := "exactCircles", fn := fun _ => fun
  | [d1, d2, d3, d4] => { results := [.lit (.bool true)], args := [d1, d2, d3, d4] }
  | _ => none }
def exactCirclesRow : OpenClaim := { program := "ytandgbpbabmdfaa", sum := "30d02b3e0e324a797739c40fc5813ef5111c99e9327ec7c9eaf89eb6c49dfbd8", func := "hectare/hectarelaw2.ExactCircles", spec := "exactCircles", inPlace := ["math/bits.Sub64", "math/bits.Add64"], unfollowed := true, recurses := true, apart := false }
def ExactCirclesSaid : Prop := exactCirclesRow.holds Try.pinned (OpenSpec.ofChange exactCirclesSpec)

/-- ITS FALSE NEIGHBOUR: 'it returns false'. Refute it at one input. -/
def exactCirclesWrong : ChangeSpec := { name := "exactCircles", fn := fun _ => fun
  | [d1, d2, d3, d4] => { results := [.lit (.bool false)], args := [d1, d2, d3, d4] }
  | _ => none }
def ExactCirclesWrongFalsely : Prop := exactCirclesRow.holds Try.pinned (OpenSpec.ofChange exactCirclesWrong)

/-- 'hectarelaw2.ExactCorners': WHATEVER THE INPUT: true; the input reads as it did. -/
def exactCornersSpec : ChangeSpec := { name := "exactCorners", fn := fun _ => fun
  | [d1, d2, d3, d4] => { results := [.lit (.bool true)], args := [d1, d2, d3, d4] }
  | _ => none }
def exactCornersRow : OpenClaim := { program := "ytandgbpbabmdfaa", sum := "30d02b3e0e324a797739c40fc5813ef5111c99e9327ec7c9eaf89eb6c49dfbd8", func := "hectare/hectarelaw2.ExactCorners", spec := "exactCorners", inPlace := ["math/bits.Sub64", "math/bits.Add64"], unfollowed := true, recurses := true, apart := false }
def ExactCornersSaid : Prop := exactCornersRow.holds Try.pinned (OpenSpec.ofChange exactCornersSpec)

/-- ITS FALSE NEIGHBOUR: 'it returns false'. Refute it at one input. -/
def exactCornersWrong : ChangeSpec := { name := "exactCorners", fn := fun _ => fun
  | [d1, d2, d3, d4] => { results := [.lit (.bool false)], args := [d1, d2, d3, d4] }
  | _ => none }
def ExactCornersWrongFalsely : Prop := exactCornersRow.holds Try.pinned (OpenSpec.ofChange exactCornersWrong)

/- THE SECOND FORM. 'bulk': how many values and letters a reading holds, each counted each time it is reached (what is shared counts as often as it is met; a slice's spare places count too). A statement '..UptoSaid' is the law's where the arguments, and the package variables that the reading takes, are together of bulk at most 1048576: NARROWER than '..Said'. Prove '..Said' where nothing that the law and all that it calls make is longer than what came in: it says more and counts as full. Else prove '..UptoSaid'. A law counts once. -/
mutual
def uptoBulk {H : Type} : DataW H → Nat
  | .lit (.string bytes) => bytes.length + 1
  | .lit _ => 1
  | .nil => 1
  | .ptr d => uptoBulk d + 1
  | .slice elems spare => uptoBulkAll elems + uptoBulkAll spare + 1
  | .agg parts => uptoBulkAll parts + 1
  | .iface _ d => uptoBulk d + 1
  | .map entries => uptoBulkEntries entries + 1
  | .held _ => 1
def uptoBulkAll {H : Type} : List (DataW H) → Nat
  | [] => 0
  | d :: r => uptoBulk d + uptoBulkAll r
def uptoBulkEntries {H : Type} : List (Lit × DataW H) → Nat
  | [] => 0
  | x :: r => uptoBulkEntry x + uptoBulkEntries r
def uptoBulkEntry {H : Type} : Lit × DataW H → Nat
  | (.string bytes, d) => bytes.length + uptoBulk d + 1
  | (_, d) => uptoBulk d + 1
 end
def uptoSmall : (H : Type) → List (DataW H) → Bool := fun _ ds => decide (uptoBulkAll ds ≤ 1048576)
def OpenSpec.upto (s : _root_.Go.ChangeSpec) : _root_.Go.OpenSpec := { _root_.Go.OpenSpec.ofChange s with cond := some uptoSmall }

/-- 'hectarelaw3.TriTells', WHERE WHAT IT READS IS OF BULK AT MOST 1048576: true; the input reads as it did. -/
def triTellsUptoRow : OpenClaim := { program := "ytandgbpbabmdfaa", sum := "30d02b3e0e324a797739c40fc5813ef5111c99e9327ec7c9eaf89eb6c49dfbd8", func := "hectare/hectarelaw3.TriTells", spec := "triTells", apart := false, narrowed := true }
def TriTellsUptoSaid : Prop := triTellsUptoRow.holds Try.pinned (OpenSpec.upto triTellsSpec)

/-- 'hectarelaw3.TriOne', WHERE WHAT IT READS IS OF BULK AT MOST 1048576: true; the input reads as it did. -/
def triOneUptoRow : OpenClaim := { program := "ytandgbpbabmdfaa", sum := "30d02b3e0e324a797739c40fc5813ef5111c99e9327ec7c9eaf89eb6c49dfbd8", func := "hectare/hectarelaw3.TriOne", spec := "triOne", apart := false, narrowed := true }
def TriOneUptoSaid : Prop := triOneUptoRow.holds Try.pinned (OpenSpec.upto triOneSpec)

/-- 'hectarelaw3.TriParts', WHERE WHAT IT READS IS OF BULK AT MOST 1048576: true; the input reads as it did. -/
def triPartsUptoRow : OpenClaim := { program := "ytandgbpbabmdfaa", sum := "30d02b3e0e324a797739c40fc5813ef5111c99e9327ec7c9eaf89eb6c49dfbd8", func := "hectare/hectarelaw3.TriParts", spec := "triParts", apart := false, narrowed := true }
def TriPartsUptoSaid : Prop := triPartsUptoRow.holds Try.pinned (OpenSpec.upto triPartsSpec)

/-- 'hectarelaw3.TriOrder', WHERE WHAT IT READS IS OF BULK AT MOST 1048576: true; the input reads as it did. -/
def triOrderUptoRow : OpenClaim := { program := "ytandgbpbabmdfaa", sum := "30d02b3e0e324a797739c40fc5813ef5111c99e9327ec7c9eaf89eb6c49dfbd8", func := "hectare/hectarelaw3.TriOrder", spec := "triOrder", apart := false, narrowed := true }
def TriOrderUptoSaid : Prop := triOrderUptoRow.holds Try.pinned (OpenSpec.upto triOrderSpec)

/-- 'hectarelaw3.TriInside', WHERE WHAT IT READS IS OF BULK AT MOST 1048576: true; the input reads as it did. -/
def triInsideUptoRow : OpenClaim := { program := "ytandgbpbabmdfaa", sum := "30d02b3e0e324a797739c40fc5813ef5111c99e9327ec7c9eaf89eb6c49dfbd8", func := "hectare/hectarelaw3.TriInside", spec := "triInside", apart := false, narrowed := true }
def TriInsideUptoSaid : Prop := triInsideUptoRow.holds Try.pinned (OpenSpec.upto triInsideSpec)

/-- 'hectarelaw4.ReachTells', WHERE WHAT IT READS IS OF BULK AT MOST 1048576: true; the input reads as it did. -/
def reachTellsUptoRow : OpenClaim := { program := "ytandgbpbabmdfaa", sum := "30d02b3e0e324a797739c40fc5813ef5111c99e9327ec7c9eaf89eb6c49dfbd8", func := "hectare/hectarelaw4.ReachTells", spec := "reachTells", inPlace := ["math/bits.Sub64"], apart := false, narrowed := true }
def ReachTellsUptoSaid : Prop := reachTellsUptoRow.holds Try.pinned (OpenSpec.upto reachTellsSpec)

/-- 'hectarelaw4.ReachPoints', WHERE WHAT IT READS IS OF BULK AT MOST 1048576: true; the input reads as it did. -/
def reachPointsUptoRow : OpenClaim := { program := "ytandgbpbabmdfaa", sum := "30d02b3e0e324a797739c40fc5813ef5111c99e9327ec7c9eaf89eb6c49dfbd8", func := "hectare/hectarelaw4.ReachPoints", spec := "reachPoints", inPlace := ["math/bits.Sub64"], apart := false, narrowed := true }
def ReachPointsUptoSaid : Prop := reachPointsUptoRow.holds Try.pinned (OpenSpec.upto reachPointsSpec)

/-- 'hectarelaw4.ReachEdges', WHERE WHAT IT READS IS OF BULK AT MOST 1048576: true; the input reads as it did. -/
def reachEdgesUptoRow : OpenClaim := { program := "ytandgbpbabmdfaa", sum := "30d02b3e0e324a797739c40fc5813ef5111c99e9327ec7c9eaf89eb6c49dfbd8", func := "hectare/hectarelaw4.ReachEdges", spec := "reachEdges", inPlace := ["math/bits.Sub64"], apart := false, narrowed := true }
def ReachEdgesUptoSaid : Prop := reachEdgesUptoRow.holds Try.pinned (OpenSpec.upto reachEdgesSpec)

/-- 'hectarelaw4.ReachParts', WHERE WHAT IT READS IS OF BULK AT MOST 1048576: true; the input reads as it did. -/
def reachPartsUptoRow : OpenClaim := { program := "ytandgbpbabmdfaa", sum := "30d02b3e0e324a797739c40fc5813ef5111c99e9327ec7c9eaf89eb6c49dfbd8", func := "hectare/hectarelaw4.ReachParts", spec := "reachParts", inPlace := ["math/bits.Sub64"], apart := false, narrowed := true }
def ReachPartsUptoSaid : Prop := reachPartsUptoRow.holds Try.pinned (OpenSpec.upto reachPartsSpec)

/-- 'hectarelaw4.ReachCuts', WHERE WHAT IT READS IS OF BULK AT MOST 1048576: true; the input reads as it did. -/
def reachCutsUptoRow : OpenClaim := { program := "ytandgbpbabmdfaa", sum := "30d02b3e0e324a797739c40fc5813ef5111c99e9327ec7c9eaf89eb6c49dfbd8", func := "hectare/hectarelaw4.ReachCuts", spec := "reachCuts", inPlace := ["math/bits.Sub64"], apart := false, narrowed := true }
def ReachCutsUptoSaid : Prop := reachCutsUptoRow.holds Try.pinned (OpenSpec.upto reachCutsSpec)

/-- 'hectarelaw2.ExactTells', WHERE WHAT IT READS IS OF BULK AT MOST 1048576: true; the input reads as it did. -/
def exactTellsUptoRow : OpenClaim := { program := "ytandgbpbabmdfaa", sum := "30d02b3e0e324a797739c40fc5813ef5111c99e9327ec7c9eaf89eb6c49dfbd8", func := "hectare/hectarelaw2.ExactTells", spec := "exactTells", inPlace := ["math/bits.Sub64", "math/bits.Add64"], unfollowed := true, recurses := true, apart := false, narrowed := true }
def ExactTellsUptoSaid : Prop := exactTellsUptoRow.holds Try.pinned (OpenSpec.upto exactTellsSpec)

/-- 'hectarelaw2.ExactTurns', WHERE WHAT IT READS IS OF BULK AT MOST 1048576: true; the input reads as it did. -/
def exactTurnsUptoRow : OpenClaim := { program := "ytandgbpbabmdfaa", sum := "30d02b3e0e324a797739c40fc5813ef5111c99e9327ec7c9eaf89eb6c49dfbd8", func := "hectare/hectarelaw2.ExactTurns", spec := "exactTurns", inPlace := ["math/bits.Sub64", "math/bits.Add64"], unfollowed := true, recurses := true, apart := false, narrowed := true }
def ExactTurnsUptoSaid : Prop := exactTurnsUptoRow.holds Try.pinned (OpenSpec.upto exactTurnsSpec)

/-- 'hectarelaw2.ExactTies', WHERE WHAT IT READS IS OF BULK AT MOST 1048576: true; the input reads as it did. -/
def exactTiesUptoRow : OpenClaim := { program := "ytandgbpbabmdfaa", sum := "30d02b3e0e324a797739c40fc5813ef5111c99e9327ec7c9eaf89eb6c49dfbd8", func := "hectare/hectarelaw2.ExactTies", spec := "exactTies", inPlace := ["math/bits.Sub64", "math/bits.Add64"], unfollowed := true, recurses := true, apart := false, narrowed := true }
def ExactTiesUptoSaid : Prop := exactTiesUptoRow.holds Try.pinned (OpenSpec.upto exactTiesSpec)

/-- 'hectarelaw2.ExactMeets', WHERE WHAT IT READS IS OF BULK AT MOST 1048576: true; the input reads as it did. -/
def exactMeetsUptoRow : OpenClaim := { program := "ytandgbpbabmdfaa", sum := "30d02b3e0e324a797739c40fc5813ef5111c99e9327ec7c9eaf89eb6c49dfbd8", func := "hectare/hectarelaw2.ExactMeets", spec := "exactMeets", inPlace := ["math/bits.Sub64", "math/bits.Add64"], unfollowed := true, recurses := true, apart := false, narrowed := true }
def ExactMeetsUptoSaid : Prop := exactMeetsUptoRow.holds Try.pinned (OpenSpec.upto exactMeetsSpec)

/-- 'hectarelaw2.ExactLines', WHERE WHAT IT READS IS OF BULK AT MOST 1048576: true; the input reads as it did. -/
def exactLinesUptoRow : OpenClaim := { program := "ytandgbpbabmdfaa", sum := "30d02b3e0e324a797739c40fc5813ef5111c99e9327ec7c9eaf89eb6c49dfbd8", func := "hectare/hectarelaw2.ExactLines", spec := "exactLines", inPlace := ["math/bits.Sub64", "math/bits.Add64"], unfollowed := true, recurses := true, apart := false, narrowed := true }
def ExactLinesUptoSaid : Prop := exactLinesUptoRow.holds Try.pinned (OpenSpec.upto exactLinesSpec)

/-- 'hectarelaw2.ExactCircles', WHERE WHAT IT READS IS OF BULK AT MOST 1048576: true; the input reads as it did. -/
def exactCirclesUptoRow : OpenClaim := { program := "ytandgbpbabmdfaa", sum := "30d02b3e0e324a797739c40fc5813ef5111c99e9327ec7c9eaf89eb6c49dfbd8", func := "hectare/hectarelaw2.ExactCircles", spec := "exactCircles", inPlace := ["math/bits.Sub64", "math/bits.Add64"], unfollowed := true, recurses := true, apart := false, narrowed := true }
def ExactCirclesUptoSaid : Prop := exactCirclesUptoRow.holds Try.pinned (OpenSpec.upto exactCirclesSpec)

/-- 'hectarelaw2.ExactCorners', WHERE WHAT IT READS IS OF BULK AT MOST 1048576: true; the input reads as it did. -/
def exactCornersUptoRow : OpenClaim := { program := "ytandgbpbabmdfaa", sum := "30d02b3e0e324a797739c40fc5813ef5111c99e9327ec7c9eaf89eb6c49dfbd8", func := "hectare/hectarelaw2.ExactCorners", spec := "exactCorners", inPlace := ["math/bits.Sub64", "math/bits.Add64"], unfollowed := true, recurses := true, apart := false, narrowed := true }
def ExactCornersUptoSaid : Prop := exactCornersUptoRow.holds Try.pinned (OpenSpec.upto exactCornersSpec)

end Rows
end Go.Proofs.Ytandgbpbabmdfaa
