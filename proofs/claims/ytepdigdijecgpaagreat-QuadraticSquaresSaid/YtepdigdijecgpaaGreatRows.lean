/-
  No cell of these rows narrows 'for every input' (looked for: loops, veiled, ifaces, maps, wideKeys, modest, calm, conditions, laid).
  DERIVED. THE GIVEN ROWS OF THIS SEAT. 16 by the template 'for every input the law returns true; each argument reads behind the call as it read before'; 0 by the template 'total and deterministic' (their statements: YtepdigdijecgpaaGreatTotals.lean).
  GIVEN WITH THE SEED: the statements are not yours to turn. If you find one false, say at which input.
  Laid BY PROGRAM, IN A SANDBOX (cutbox-rows.mjs): the forced cells as the released guide's own fill.sh prints them over the translation 342abca1a04116c7… (all of the seat's roots in one cut). By AI agents, Wed Nov 11 2026. No macro, syntax, notation, axiom, sorry.
-/
import Derived.Test.YtepdigdijecgpaaGreatChecked
import GoSem.Claim
import GoSem.ClaimJoined
import GoSem.ClaimMapViews
import Derived.JoinedTies
import Derived.KernelRfl
namespace Go.Proofs.YtepdigdijecgpaaGreat
/- THE CELL 'sum', in the pinned program and in every row, IS THE sha256 OF THE DUMP (.gsa) THAT YtepdigdijecgpaaGreatProg.lean LOADS. Nothing in Lean hashes anything: it is a label: what it is worth is what the hold of that sum in a sandbox is worth. -/
noncomputable def Tryz.pinned : Pinned := { name := "ytepdigdijecgpaagreat", sum := "342abca1a04116c78fc3f83d7579398f29d0ed782f261508de3eac72d9186433", checked := Tryz.checked }
namespace Rows
def none {H : Type} : Left H := { results := [], args := [] }

/-- 'fourfoldlaw02.LatticeParts': WHATEVER THE INPUT: true; the input reads as it did. -/
def latticePartsSpec : ChangeSpec := { name := "latticeParts", fn := fun _ => fun
  | [d1, d2] => { results := [.lit (.bool true)], args := [d1, d2] }
  | _ => none }
def latticePartsRow : OpenClaim := { program := "ytepdigdijecgpaagreat", sum := "342abca1a04116c78fc3f83d7579398f29d0ed782f261508de3eac72d9186433", func := "fourfold/fourfoldlaw02.LatticeParts", spec := "latticeParts", unfollowed := true, recurses := true, apart := false }
def LatticePartsSaid : Prop := latticePartsRow.holds Tryz.pinned (OpenSpec.ofChange latticePartsSpec)

/-- ITS FALSE NEIGHBOUR: 'it returns false'. Refute it at one input. -/
def latticePartsWrong : ChangeSpec := { name := "latticeParts", fn := fun _ => fun
  | [d1, d2] => { results := [.lit (.bool false)], args := [d1, d2] }
  | _ => none }
def LatticePartsWrongFalsely : Prop := latticePartsRow.holds Tryz.pinned (OpenSpec.ofChange latticePartsWrong)

/-- 'fourfoldlaw02.LatticeVectors': WHATEVER THE INPUT: true; the input reads as it did. -/
def latticeVectorsSpec : ChangeSpec := { name := "latticeVectors", fn := fun _ => fun
  | [d1, d2] => { results := [.lit (.bool true)], args := [d1, d2] }
  | _ => none }
def latticeVectorsRow : OpenClaim := { program := "ytepdigdijecgpaagreat", sum := "342abca1a04116c78fc3f83d7579398f29d0ed782f261508de3eac72d9186433", func := "fourfold/fourfoldlaw02.LatticeVectors", spec := "latticeVectors", unfollowed := true, recurses := true, apart := false }
def LatticeVectorsSaid : Prop := latticeVectorsRow.holds Tryz.pinned (OpenSpec.ofChange latticeVectorsSpec)

/-- ITS FALSE NEIGHBOUR: 'it returns false'. Refute it at one input. -/
def latticeVectorsWrong : ChangeSpec := { name := "latticeVectors", fn := fun _ => fun
  | [d1, d2] => { results := [.lit (.bool false)], args := [d1, d2] }
  | _ => none }
def LatticeVectorsWrongFalsely : Prop := latticeVectorsRow.holds Tryz.pinned (OpenSpec.ofChange latticeVectorsWrong)

/-- 'fourfoldlaw02.LatticeMinkowski': WHATEVER THE INPUT: true; the input reads as it did. -/
def latticeMinkowskiSpec : ChangeSpec := { name := "latticeMinkowski", fn := fun _ => fun
  | [d1, d2] => { results := [.lit (.bool true)], args := [d1, d2] }
  | _ => none }
def latticeMinkowskiRow : OpenClaim := { program := "ytepdigdijecgpaagreat", sum := "342abca1a04116c78fc3f83d7579398f29d0ed782f261508de3eac72d9186433", func := "fourfold/fourfoldlaw02.LatticeMinkowski", spec := "latticeMinkowski", unfollowed := true, recurses := true, apart := false }
def LatticeMinkowskiSaid : Prop := latticeMinkowskiRow.holds Tryz.pinned (OpenSpec.ofChange latticeMinkowskiSpec)

/-- ITS FALSE NEIGHBOUR: 'it returns false'. Refute it at one input. -/
def latticeMinkowskiWrong : ChangeSpec := { name := "latticeMinkowski", fn := fun _ => fun
  | [d1, d2] => { results := [.lit (.bool false)], args := [d1, d2] }
  | _ => none }
def LatticeMinkowskiWrongFalsely : Prop := latticeMinkowskiRow.holds Tryz.pinned (OpenSpec.ofChange latticeMinkowskiWrong)

/-- 'fourfoldlaw02.LatticeReduces': WHATEVER THE INPUT: true; the input reads as it did. -/
def latticeReducesSpec : ChangeSpec := { name := "latticeReduces", fn := fun _ => fun
  | [d1, d2] => { results := [.lit (.bool true)], args := [d1, d2] }
  | _ => none }
def latticeReducesRow : OpenClaim := { program := "ytepdigdijecgpaagreat", sum := "342abca1a04116c78fc3f83d7579398f29d0ed782f261508de3eac72d9186433", func := "fourfold/fourfoldlaw02.LatticeReduces", spec := "latticeReduces", unfollowed := true, recurses := true, apart := false }
def LatticeReducesSaid : Prop := latticeReducesRow.holds Tryz.pinned (OpenSpec.ofChange latticeReducesSpec)

/-- ITS FALSE NEIGHBOUR: 'it returns false'. Refute it at one input. -/
def latticeReducesWrong : ChangeSpec := { name := "latticeReduces", fn := fun _ => fun
  | [d1, d2] => { results := [.lit (.bool false)], args := [d1, d2] }
  | _ => none }
def LatticeReducesWrongFalsely : Prop := latticeReducesRow.holds Tryz.pinned (OpenSpec.ofChange latticeReducesWrong)

/-- 'fourfoldlaw06.QuadraticChecks': WHATEVER THE INPUT: true; the input reads as it did. -/
def quadraticChecksSpec : ChangeSpec := { name := "quadraticChecks", fn := fun _ => fun
  | [d] => { results := [.lit (.bool true)], args := [d] }
  | _ => none }
def quadraticChecksRow : OpenClaim := { program := "ytepdigdijecgpaagreat", sum := "342abca1a04116c78fc3f83d7579398f29d0ed782f261508de3eac72d9186433", func := "fourfold/fourfoldlaw06.QuadraticChecks", spec := "quadraticChecks", unfollowed := true, recurses := true, apart := false }
def QuadraticChecksSaid : Prop := quadraticChecksRow.holds Tryz.pinned (OpenSpec.ofChange quadraticChecksSpec)

/-- ITS FALSE NEIGHBOUR: 'it returns false'. Refute it at one input. -/
def quadraticChecksWrong : ChangeSpec := { name := "quadraticChecks", fn := fun _ => fun
  | [d] => { results := [.lit (.bool false)], args := [d] }
  | _ => none }
def QuadraticChecksWrongFalsely : Prop := quadraticChecksRow.holds Tryz.pinned (OpenSpec.ofChange quadraticChecksWrong)

/-- 'fourfoldlaw06.QuadraticLabels': WHATEVER THE INPUT: true; the input reads as it did. -/
def quadraticLabelsSpec : ChangeSpec := { name := "quadraticLabels", fn := fun _ => fun
  | [d] => { results := [.lit (.bool true)], args := [d] }
  | _ => none }
def quadraticLabelsRow : OpenClaim := { program := "ytepdigdijecgpaagreat", sum := "342abca1a04116c78fc3f83d7579398f29d0ed782f261508de3eac72d9186433", func := "fourfold/fourfoldlaw06.QuadraticLabels", spec := "quadraticLabels", unfollowed := true, recurses := true, apart := false }
def QuadraticLabelsSaid : Prop := quadraticLabelsRow.holds Tryz.pinned (OpenSpec.ofChange quadraticLabelsSpec)

/-- ITS FALSE NEIGHBOUR: 'it returns false'. Refute it at one input. -/
def quadraticLabelsWrong : ChangeSpec := { name := "quadraticLabels", fn := fun _ => fun
  | [d] => { results := [.lit (.bool false)], args := [d] }
  | _ => none }
def QuadraticLabelsWrongFalsely : Prop := quadraticLabelsRow.holds Tryz.pinned (OpenSpec.ofChange quadraticLabelsWrong)

/-- 'fourfoldlaw06.QuadraticSquares': WHATEVER THE INPUT: true; the input reads as it did. -/
def quadraticSquaresSpec : ChangeSpec := { name := "quadraticSquares", fn := fun _ => fun
  | [d1, d2] => { results := [.lit (.bool true)], args := [d1, d2] }
  | _ => none }
def quadraticSquaresRow : OpenClaim := { program := "ytepdigdijecgpaagreat", sum := "342abca1a04116c78fc3f83d7579398f29d0ed782f261508de3eac72d9186433", func := "fourfold/fourfoldlaw06.QuadraticSquares", spec := "quadraticSquares", unfollowed := true, recurses := true, apart := false }
def QuadraticSquaresSaid : Prop := quadraticSquaresRow.holds Tryz.pinned (OpenSpec.ofChange quadraticSquaresSpec)

/-- ITS FALSE NEIGHBOUR: 'it returns false'. Refute it at one input. -/
def quadraticSquaresWrong : ChangeSpec := { name := "quadraticSquares", fn := fun _ => fun
  | [d1, d2] => { results := [.lit (.bool false)], args := [d1, d2] }
  | _ => none }
def QuadraticSquaresWrongFalsely : Prop := quadraticSquaresRow.holds Tryz.pinned (OpenSpec.ofChange quadraticSquaresWrong)

/-- 'fourfoldlaw06.QuadraticReduces': WHATEVER THE INPUT: true; the input reads as it did. -/
def quadraticReducesSpec : ChangeSpec := { name := "quadraticReduces", fn := fun _ => fun
  | [d] => { results := [.lit (.bool true)], args := [d] }
  | _ => none }
def quadraticReducesRow : OpenClaim := { program := "ytepdigdijecgpaagreat", sum := "342abca1a04116c78fc3f83d7579398f29d0ed782f261508de3eac72d9186433", func := "fourfold/fourfoldlaw06.QuadraticReduces", spec := "quadraticReduces", unfollowed := true, recurses := true, apart := false }
def QuadraticReducesSaid : Prop := quadraticReducesRow.holds Tryz.pinned (OpenSpec.ofChange quadraticReducesSpec)

/-- ITS FALSE NEIGHBOUR: 'it returns false'. Refute it at one input. -/
def quadraticReducesWrong : ChangeSpec := { name := "quadraticReduces", fn := fun _ => fun
  | [d] => { results := [.lit (.bool false)], args := [d] }
  | _ => none }
def QuadraticReducesWrongFalsely : Prop := quadraticReducesRow.holds Tryz.pinned (OpenSpec.ofChange quadraticReducesWrong)

/-- 'fourfoldlaw06.QuadraticTheta': WHATEVER THE INPUT: true; the input reads as it did. -/
def quadraticThetaSpec : ChangeSpec := { name := "quadraticTheta", fn := fun _ => fun
  | [d1, d2] => { results := [.lit (.bool true)], args := [d1, d2] }
  | _ => none }
def quadraticThetaRow : OpenClaim := { program := "ytepdigdijecgpaagreat", sum := "342abca1a04116c78fc3f83d7579398f29d0ed782f261508de3eac72d9186433", func := "fourfold/fourfoldlaw06.QuadraticTheta", spec := "quadraticTheta", unfollowed := true, recurses := true, apart := false }
def QuadraticThetaSaid : Prop := quadraticThetaRow.holds Tryz.pinned (OpenSpec.ofChange quadraticThetaSpec)

/-- ITS FALSE NEIGHBOUR: 'it returns false'. Refute it at one input. -/
def quadraticThetaWrong : ChangeSpec := { name := "quadraticTheta", fn := fun _ => fun
  | [d1, d2] => { results := [.lit (.bool false)], args := [d1, d2] }
  | _ => none }
def QuadraticThetaWrongFalsely : Prop := quadraticThetaRow.holds Tryz.pinned (OpenSpec.ofChange quadraticThetaWrong)

/-- 'fourfoldlaw06.QuadraticShort': WHATEVER THE INPUT: true; the input reads as it did. -/
def quadraticShortSpec : ChangeSpec := { name := "quadraticShort", fn := fun _ => fun
  | [d1, d2] => { results := [.lit (.bool true)], args := [d1, d2] }
  | _ => none }
def quadraticShortRow : OpenClaim := { program := "ytepdigdijecgpaagreat", sum := "342abca1a04116c78fc3f83d7579398f29d0ed782f261508de3eac72d9186433", func := "fourfold/fourfoldlaw06.QuadraticShort", spec := "quadraticShort", unfollowed := true, recurses := true, apart := false }
def QuadraticShortSaid : Prop := quadraticShortRow.holds Tryz.pinned (OpenSpec.ofChange quadraticShortSpec)

/-- ITS FALSE NEIGHBOUR: 'it returns false'. Refute it at one input. -/
def quadraticShortWrong : ChangeSpec := { name := "quadraticShort", fn := fun _ => fun
  | [d1, d2] => { results := [.lit (.bool false)], args := [d1, d2] }
  | _ => none }
def QuadraticShortWrongFalsely : Prop := quadraticShortRow.holds Tryz.pinned (OpenSpec.ofChange quadraticShortWrong)

/-- 'fourfoldlaw06.QuadraticApplies': WHATEVER THE INPUT: true; the input reads as it did. -/
def quadraticAppliesSpec : ChangeSpec := { name := "quadraticApplies", fn := fun _ => fun
  | [d1, d2] => { results := [.lit (.bool true)], args := [d1, d2] }
  | _ => none }
def quadraticAppliesRow : OpenClaim := { program := "ytepdigdijecgpaagreat", sum := "342abca1a04116c78fc3f83d7579398f29d0ed782f261508de3eac72d9186433", func := "fourfold/fourfoldlaw06.QuadraticApplies", spec := "quadraticApplies", unfollowed := true, recurses := true, apart := false }
def QuadraticAppliesSaid : Prop := quadraticAppliesRow.holds Tryz.pinned (OpenSpec.ofChange quadraticAppliesSpec)

/-- ITS FALSE NEIGHBOUR: 'it returns false'. Refute it at one input. -/
def quadraticAppliesWrong : ChangeSpec := { name := "quadraticApplies", fn := fun _ => fun
  | [d1, d2] => { results := [.lit (.bool false)], args := [d1, d2] }
  | _ => none }
def QuadraticAppliesWrongFalsely : Prop := quadraticAppliesRow.holds Tryz.pinned (OpenSpec.ofChange quadraticAppliesWrong)

/-- 'fourfoldlaw06.QuadraticValues': WHATEVER THE INPUT: true; the input reads as it did. -/
def quadraticValuesSpec : ChangeSpec := { name := "quadraticValues", fn := fun _ => fun
  | [d1, d2] => { results := [.lit (.bool true)], args := [d1, d2] }
  | _ => none }
def quadraticValuesRow : OpenClaim := { program := "ytepdigdijecgpaagreat", sum := "342abca1a04116c78fc3f83d7579398f29d0ed782f261508de3eac72d9186433", func := "fourfold/fourfoldlaw06.QuadraticValues", spec := "quadraticValues", unfollowed := true, recurses := true, apart := false }
def QuadraticValuesSaid : Prop := quadraticValuesRow.holds Tryz.pinned (OpenSpec.ofChange quadraticValuesSpec)

/-- ITS FALSE NEIGHBOUR: 'it returns false'. Refute it at one input. -/
def quadraticValuesWrong : ChangeSpec := { name := "quadraticValues", fn := fun _ => fun
  | [d1, d2] => { results := [.lit (.bool false)], args := [d1, d2] }
  | _ => none }
def QuadraticValuesWrongFalsely : Prop := quadraticValuesRow.holds Tryz.pinned (OpenSpec.ofChange quadraticValuesWrong)

/-- 'fourfoldlaw06.QuadraticAutomorphisms': WHATEVER THE INPUT: true; the input reads as it did. -/
def quadraticAutomorphismsSpec : ChangeSpec := { name := "quadraticAutomorphisms", fn := fun _ => fun
  | [d] => { results := [.lit (.bool true)], args := [d] }
  | _ => none }
def quadraticAutomorphismsRow : OpenClaim := { program := "ytepdigdijecgpaagreat", sum := "342abca1a04116c78fc3f83d7579398f29d0ed782f261508de3eac72d9186433", func := "fourfold/fourfoldlaw06.QuadraticAutomorphisms", spec := "quadraticAutomorphisms", unfollowed := true, recurses := true, apart := false }
def QuadraticAutomorphismsSaid : Prop := quadraticAutomorphismsRow.holds Tryz.pinned (OpenSpec.ofChange quadraticAutomorphismsSpec)

/-- ITS FALSE NEIGHBOUR: 'it returns false'. Refute it at one input. -/
def quadraticAutomorphismsWrong : ChangeSpec := { name := "quadraticAutomorphisms", fn := fun _ => fun
  | [d] => { results := [.lit (.bool false)], args := [d] }
  | _ => none }
def QuadraticAutomorphismsWrongFalsely : Prop := quadraticAutomorphismsRow.holds Tryz.pinned (OpenSpec.ofChange quadraticAutomorphismsWrong)

/-- 'fourfoldlaw06.QuadraticGroup': WHATEVER THE INPUT: true; the input reads as it did. -/
def quadraticGroupSpec : ChangeSpec := { name := "quadraticGroup", fn := fun _ => fun
  | [d1, d2, d3] => { results := [.lit (.bool true)], args := [d1, d2, d3] }
  | _ => none }
def quadraticGroupRow : OpenClaim := { program := "ytepdigdijecgpaagreat", sum := "342abca1a04116c78fc3f83d7579398f29d0ed782f261508de3eac72d9186433", func := "fourfold/fourfoldlaw06.QuadraticGroup", spec := "quadraticGroup", unfollowed := true, recurses := true, apart := false }
def QuadraticGroupSaid : Prop := quadraticGroupRow.holds Tryz.pinned (OpenSpec.ofChange quadraticGroupSpec)

/-- ITS FALSE NEIGHBOUR: 'it returns false'. Refute it at one input. -/
def quadraticGroupWrong : ChangeSpec := { name := "quadraticGroup", fn := fun _ => fun
  | [d1, d2, d3] => { results := [.lit (.bool false)], args := [d1, d2, d3] }
  | _ => none }
def QuadraticGroupWrongFalsely : Prop := quadraticGroupRow.holds Tryz.pinned (OpenSpec.ofChange quadraticGroupWrong)

/-- 'fourfoldlaw06.QuadraticEquivalences': WHATEVER THE INPUT: true; the input reads as it did. -/
def quadraticEquivalencesSpec : ChangeSpec := { name := "quadraticEquivalences", fn := fun _ => fun
  | [d1, d2, d3] => { results := [.lit (.bool true)], args := [d1, d2, d3] }
  | _ => none }
def quadraticEquivalencesRow : OpenClaim := { program := "ytepdigdijecgpaagreat", sum := "342abca1a04116c78fc3f83d7579398f29d0ed782f261508de3eac72d9186433", func := "fourfold/fourfoldlaw06.QuadraticEquivalences", spec := "quadraticEquivalences", unfollowed := true, recurses := true, apart := false }
def QuadraticEquivalencesSaid : Prop := quadraticEquivalencesRow.holds Tryz.pinned (OpenSpec.ofChange quadraticEquivalencesSpec)

/-- ITS FALSE NEIGHBOUR: 'it returns false'. Refute it at one input. -/
def quadraticEquivalencesWrong : ChangeSpec := { name := "quadraticEquivalences", fn := fun _ => fun
  | [d1, d2, d3] => { results := [.lit (.bool false)], args := [d1, d2, d3] }
  | _ => none }
def QuadraticEquivalencesWrongFalsely : Prop := quadraticEquivalencesRow.holds Tryz.pinned (OpenSpec.ofChange quadraticEquivalencesWrong)

/-- 'fourfoldlaw06.QuadraticLocal': WHATEVER THE INPUT: true; the input reads as it did. -/
def quadraticLocalSpec : ChangeSpec := { name := "quadraticLocal", fn := fun _ => fun
  | [d1, d2] => { results := [.lit (.bool true)], args := [d1, d2] }
  | _ => none }
def quadraticLocalRow : OpenClaim := { program := "ytepdigdijecgpaagreat", sum := "342abca1a04116c78fc3f83d7579398f29d0ed782f261508de3eac72d9186433", func := "fourfold/fourfoldlaw06.QuadraticLocal", spec := "quadraticLocal", unfollowed := true, recurses := true, apart := false }
def QuadraticLocalSaid : Prop := quadraticLocalRow.holds Tryz.pinned (OpenSpec.ofChange quadraticLocalSpec)

/-- ITS FALSE NEIGHBOUR: 'it returns false'. Refute it at one input. -/
def quadraticLocalWrong : ChangeSpec := { name := "quadraticLocal", fn := fun _ => fun
  | [d1, d2] => { results := [.lit (.bool false)], args := [d1, d2] }
  | _ => none }
def QuadraticLocalWrongFalsely : Prop := quadraticLocalRow.holds Tryz.pinned (OpenSpec.ofChange quadraticLocalWrong)

/- THE SECOND FORM. 'bulk': how many values and letters a reading holds, each counted each time it is reached (what is shared counts as often as it is met; a slice's spare places count too). A statement '..UptoSaid' is the law's where the arguments, and the package variables that the reading takes, are together of bulk at most 1048576: NARROWER than '..Said'. Prove '..Said' where nothing that the law and all that it calls make is longer than what came in: it says more and counts as full. Else prove '..UptoSaid'. A law counts once. -/
mutual
def uptoBulk {H : Type} : DataW H → Nat
  | .lit (.string bytes) => bytes.length + 1
  | .lit _ => 1
  | .nil => 1
  | .ptr d => uptoBulk d + 1
  | .slice elems spare => uptoBulkAll elems + uptoBulkAll spare + 1
  | .agg parts => uptoBulkAll parts + 1
  | .iface _ d => uptoBulk d + 1
  | .map entries => uptoBulkEntries entries + 1
  | .held _ => 1
def uptoBulkAll {H : Type} : List (DataW H) → Nat
  | [] => 0
  | d :: r => uptoBulk d + uptoBulkAll r
def uptoBulkEntries {H : Type} : List (Lit × DataW H) → Nat
  | [] => 0
  | x :: r => uptoBulkEntry x + uptoBulkEntries r
def uptoBulkEntry {H : Type} : Lit × DataW H → Nat
  | (.string bytes, d) => bytes.length + uptoBulk d + 1
  | (_, d) => uptoBulk d + 1
 end
def uptoSmall : (H : Type) → List (DataW H) → Bool := fun _ ds => decide (uptoBulkAll ds ≤ 1048576)
def OpenSpec.upto (s : _root_.Go.ChangeSpec) : _root_.Go.OpenSpec := { _root_.Go.OpenSpec.ofChange s with cond := some uptoSmall }

/-- 'fourfoldlaw02.LatticeParts', WHERE WHAT IT READS IS OF BULK AT MOST 1048576: true; the input reads as it did. -/
def latticePartsUptoRow : OpenClaim := { program := "ytepdigdijecgpaagreat", sum := "342abca1a04116c78fc3f83d7579398f29d0ed782f261508de3eac72d9186433", func := "fourfold/fourfoldlaw02.LatticeParts", spec := "latticeParts", unfollowed := true, recurses := true, apart := false, narrowed := true }
def LatticePartsUptoSaid : Prop := latticePartsUptoRow.holds Tryz.pinned (OpenSpec.upto latticePartsSpec)

/-- 'fourfoldlaw02.LatticeVectors', WHERE WHAT IT READS IS OF BULK AT MOST 1048576: true; the input reads as it did. -/
def latticeVectorsUptoRow : OpenClaim := { program := "ytepdigdijecgpaagreat", sum := "342abca1a04116c78fc3f83d7579398f29d0ed782f261508de3eac72d9186433", func := "fourfold/fourfoldlaw02.LatticeVectors", spec := "latticeVectors", unfollowed := true, recurses := true, apart := false, narrowed := true }
def LatticeVectorsUptoSaid : Prop := latticeVectorsUptoRow.holds Tryz.pinned (OpenSpec.upto latticeVectorsSpec)

/-- 'fourfoldlaw02.LatticeMinkowski', WHERE WHAT IT READS IS OF BULK AT MOST 1048576: true; the input reads as it did. -/
def latticeMinkowskiUptoRow : OpenClaim := { program := "ytepdigdijecgpaagreat", sum := "342abca1a04116c78fc3f83d7579398f29d0ed782f261508de3eac72d9186433", func := "fourfold/fourfoldlaw02.LatticeMinkowski", spec := "latticeMinkowski", unfollowed := true, recurses := true, apart := false, narrowed := true }
def LatticeMinkowskiUptoSaid : Prop := latticeMinkowskiUptoRow.holds Tryz.pinned (OpenSpec.upto latticeMinkowskiSpec)

/-- 'fourfoldlaw02.LatticeReduces', WHERE WHAT IT READS IS OF BULK AT MOST 1048576: true; the input reads as it did. -/
def latticeReducesUptoRow : OpenClaim := { program := "ytepdigdijecgpaagreat", sum := "342abca1a04116c78fc3f83d7579398f29d0ed782f261508de3eac72d9186433", func := "fourfold/fourfoldlaw02.LatticeReduces", spec := "latticeReduces", unfollowed := true, recurses := true, apart := false, narrowed := true }
def LatticeReducesUptoSaid : Prop := latticeReducesUptoRow.holds Tryz.pinned (OpenSpec.upto latticeReducesSpec)

/-- 'fourfoldlaw06.QuadraticChecks', WHERE WHAT IT READS IS OF BULK AT MOST 1048576: true; the input reads as it did. -/
def quadraticChecksUptoRow : OpenClaim := { program := "ytepdigdijecgpaagreat", sum := "342abca1a04116c78fc3f83d7579398f29d0ed782f261508de3eac72d9186433", func := "fourfold/fourfoldlaw06.QuadraticChecks", spec := "quadraticChecks", unfollowed := true, recurses := true, apart := false, narrowed := true }
def QuadraticChecksUptoSaid : Prop := quadraticChecksUptoRow.holds Tryz.pinned (OpenSpec.upto quadraticChecksSpec)

/-- 'fourfoldlaw06.QuadraticLabels', WHERE WHAT IT READS IS OF BULK AT MOST 1048576: true; the input reads as it did. -/
def quadraticLabelsUptoRow : OpenClaim := { program := "ytepdigdijecgpaagreat", sum := "342abca1a04116c78fc3f83d7579398f29d0ed782f261508de3eac72d9186433", func := "fourfold/fourfoldlaw06.QuadraticLabels", spec := "quadraticLabels", unfollowed := true, recurses := true, apart := false, narrowed := true }
def QuadraticLabelsUptoSaid : Prop := quadraticLabelsUptoRow.holds Tryz.pinned (OpenSpec.upto quadraticLabelsSpec)

/-- 'fourfoldlaw06.QuadraticSquares', WHERE WHAT IT READS IS OF BULK AT MOST 1048576: true; the input reads as it did. -/
def quadraticSquaresUptoRow : OpenClaim := { program := "ytepdigdijecgpaagreat", sum := "342abca1a04116c78fc3f83d7579398f29d0ed782f261508de3eac72d9186433", func := "fourfold/fourfoldlaw06.QuadraticSquares", spec := "quadraticSquares", unfollowed := true, recurses := true, apart := false, narrowed := true }
def QuadraticSquaresUptoSaid : Prop := quadraticSquaresUptoRow.holds Tryz.pinned (OpenSpec.upto quadraticSquaresSpec)

/-- 'fourfoldlaw06.QuadraticReduces', WHERE WHAT IT READS IS OF BULK AT MOST 1048576: true; the input reads as it did. -/
def quadraticReducesUptoRow : OpenClaim := { program := "ytepdigdijecgpaagreat", sum := "342abca1a04116c78fc3f83d7579398f29d0ed782f261508de3eac72d9186433", func := "fourfold/fourfoldlaw06.QuadraticReduces", spec := "quadraticReduces", unfollowed := true, recurses := true, apart := false, narrowed := true }
def QuadraticReducesUptoSaid : Prop := quadraticReducesUptoRow.holds Tryz.pinned (OpenSpec.upto quadraticReducesSpec)

/-- 'fourfoldlaw06.QuadraticTheta', WHERE WHAT IT READS IS OF BULK AT MOST 1048576: true; the input reads as it did. -/
def quadraticThetaUptoRow : OpenClaim := { program := "ytepdigdijecgpaagreat", sum := "342abca1a04116c78fc3f83d7579398f29d0ed782f261508de3eac72d9186433", func := "fourfold/fourfoldlaw06.QuadraticTheta", spec := "quadraticTheta", unfollowed := true, recurses := true, apart := false, narrowed := true }
def QuadraticThetaUptoSaid : Prop := quadraticThetaUptoRow.holds Tryz.pinned (OpenSpec.upto quadraticThetaSpec)

/-- 'fourfoldlaw06.QuadraticShort', WHERE WHAT IT READS IS OF BULK AT MOST 1048576: true; the input reads as it did. -/
def quadraticShortUptoRow : OpenClaim := { program := "ytepdigdijecgpaagreat", sum := "342abca1a04116c78fc3f83d7579398f29d0ed782f261508de3eac72d9186433", func := "fourfold/fourfoldlaw06.QuadraticShort", spec := "quadraticShort", unfollowed := true, recurses := true, apart := false, narrowed := true }
def QuadraticShortUptoSaid : Prop := quadraticShortUptoRow.holds Tryz.pinned (OpenSpec.upto quadraticShortSpec)

/-- 'fourfoldlaw06.QuadraticApplies', WHERE WHAT IT READS IS OF BULK AT MOST 1048576: true; the input reads as it did. -/
def quadraticAppliesUptoRow : OpenClaim := { program := "ytepdigdijecgpaagreat", sum := "342abca1a04116c78fc3f83d7579398f29d0ed782f261508de3eac72d9186433", func := "fourfold/fourfoldlaw06.QuadraticApplies", spec := "quadraticApplies", unfollowed := true, recurses := true, apart := false, narrowed := true }
def QuadraticAppliesUptoSaid : Prop := quadraticAppliesUptoRow.holds Tryz.pinned (OpenSpec.upto quadraticAppliesSpec)

/-- 'fourfoldlaw06.QuadraticValues', WHERE WHAT IT READS IS OF BULK AT MOST 1048576: true; the input reads as it did. -/
def quadraticValuesUptoRow : OpenClaim := { program := "ytepdigdijecgpaagreat", sum := "342abca1a04116c78fc3f83d7579398f29d0ed782f261508de3eac72d9186433", func := "fourfold/fourfoldlaw06.QuadraticValues", spec := "quadraticValues", unfollowed := true, recurses := true, apart := false, narrowed := true }
def QuadraticValuesUptoSaid : Prop := quadraticValuesUptoRow.holds Tryz.pinned (OpenSpec.upto quadraticValuesSpec)

/-- 'fourfoldlaw06.QuadraticAutomorphisms', WHERE WHAT IT READS IS OF BULK AT MOST 1048576: true; the input reads as it did. -/
def quadraticAutomorphismsUptoRow : OpenClaim := { program := "ytepdigdijecgpaagreat", sum := "342abca1a04116c78fc3f83d7579398f29d0ed782f261508de3eac72d9186433", func := "fourfold/fourfoldlaw06.QuadraticAutomorphisms", spec := "quadraticAutomorphisms", unfollowed := true, recurses := true, apart := false, narrowed := true }
def QuadraticAutomorphismsUptoSaid : Prop := quadraticAutomorphismsUptoRow.holds Tryz.pinned (OpenSpec.upto quadraticAutomorphismsSpec)

/-- 'fourfoldlaw06.QuadraticGroup', WHERE WHAT IT READS IS OF BULK AT MOST 1048576: true; the input reads as it did. -/
def quadraticGroupUptoRow : OpenClaim := { program := "ytepdigdijecgpaagreat", sum := "342abca1a04116c78fc3f83d7579398f29d0ed782f261508de3eac72d9186433", func := "fourfold/fourfoldlaw06.QuadraticGroup", spec := "quadraticGroup", unfollowed := true, recurses := true, apart := false, narrowed := true }
def QuadraticGroupUptoSaid : Prop := quadraticGroupUptoRow.holds Tryz.pinned (OpenSpec.upto quadraticGroupSpec)

/-- 'fourfoldlaw06.QuadraticEquivalences', WHERE WHAT IT READS IS OF BULK AT MOST 1048576: true; the input reads as it did. -/
def quadraticEquivalencesUptoRow : OpenClaim := { program := "ytepdigdijecgpaagreat", sum := "342abca1a04116c78fc3f83d7579398f29d0ed782f261508de3eac72d9186433", func := "fourfold/fourfoldlaw06.QuadraticEquivalences", spec := "quadraticEquivalences", unfollowed := true, recurses := true, apart := false, narrowed := true }
def QuadraticEquivalencesUptoSaid : Prop := quadraticEquivalencesUptoRow.holds Tryz.pinned (OpenSpec.upto quadraticEquivalencesSpec)

/-- 'fourfoldlaw06.QuadraticLocal', WHERE WHAT IT READS IS OF BULK AT MOST 1048576: true; the input reads as it did. -/
def quadraticLocalUptoRow : OpenClaim := { program := "ytepdigdijecgpaagreat", sum := "342abca1a04116c78fc3f83d7579398f29d0ed782f261508de3eac72d9186433", func := "fourfold/fourfoldlaw06.QuadraticLocal", spec := "quadraticLocal", unfollowed := true, recurses := true, apart := false, narrowed := true }
def QuadraticLocalUptoSaid : Prop := quadraticLocalUptoRow.holds Tryz.pinned (OpenSpec.upto quadraticLocalSpec)

end Rows
end Go.Proofs.YtepdigdijecgpaaGreat
