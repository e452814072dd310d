/-
  No cell of these rows narrows 'for every input' (looked for: loops, veiled, ifaces, maps, wideKeys, modest, calm, conditions, laid).
  DERIVED. THE GIVEN ROWS OF THIS SEAT. 11 by the template 'for every input the law returns true; each argument reads behind the call as it read before'; 0 by the template 'total and deterministic' (their statements: YthajaabgcbjfkaaTotals.lean).
  GIVEN WITH THE SEED: the statements are not yours to turn. If you find one false, say at which input.
  Laid BY PROGRAM, IN A SANDBOX (cutbox-rows.mjs): the forced cells as the released guide's own fill.sh prints them over the translation 59e59dfde90c6e67… (all of the seat's roots in one cut). By AI agents, Wed Nov 11 2026. No macro, syntax, notation, axiom, sorry.
-/
import Derived.Test.YthajaabgcbjfkaaChecked
import GoSem.Claim
import GoSem.ClaimJoined
import GoSem.ClaimMapViews
import Derived.JoinedTies
import Derived.KernelRfl
namespace Go.Proofs.Ythajaabgcbjfkaa
/- THE CELL 'sum', in the pinned program and in every row, IS THE sha256 OF THE DUMP (.gsa) THAT YthajaabgcbjfkaaProg.lean LOADS. Nothing in Lean hashes anything: it is a label: what it is worth is what the hold of that sum in a sandbox is worth. -/
noncomputable def Try.pinned : Pinned := { name := "ythajaabgcbjfkaa", sum := "59e59dfde90c6e67a9e443663744a1c18dff54639ed609f7dd801f34608e0485", checked := Try.checked }
namespace Rows
def none {H : Type} : Left H := { results := [], args := [] }

/-- 'fourfoldlaw07.RotationDivides': WHATEVER THE INPUT: true; the input reads as it did. -/
def rotationDividesSpec : ChangeSpec := { name := "rotationDivides", fn := fun _ => fun
  | [d1, d2] => { results := [.lit (.bool true)], args := [d1, d2] }
  | _ => none }
def rotationDividesRow : OpenClaim := { program := "ythajaabgcbjfkaa", sum := "59e59dfde90c6e67a9e443663744a1c18dff54639ed609f7dd801f34608e0485", func := "fourfold/fourfoldlaw07.RotationDivides", spec := "rotationDivides", unfollowed := true, recurses := true, apart := false }
def RotationDividesSaid : Prop := rotationDividesRow.holds Try.pinned (OpenSpec.ofChange rotationDividesSpec)

/-- ITS FALSE NEIGHBOUR: 'it returns false'. Refute it at one input. -/
def rotationDividesWrong : ChangeSpec := { name := "rotationDivides", fn := fun _ => fun
  | [d1, d2] => { results := [.lit (.bool false)], args := [d1, d2] }
  | _ => none }
def RotationDividesWrongFalsely : Prop := rotationDividesRow.holds Try.pinned (OpenSpec.ofChange rotationDividesWrong)

/-- 'fourfoldlaw07.RotationNorms': WHATEVER THE INPUT: true; the input reads as it did. -/
def rotationNormsSpec : ChangeSpec := { name := "rotationNorms", fn := fun _ => fun
  | [d] => { results := [.lit (.bool true)], args := [d] }
  | _ => none }
def rotationNormsRow : OpenClaim := { program := "ythajaabgcbjfkaa", sum := "59e59dfde90c6e67a9e443663744a1c18dff54639ed609f7dd801f34608e0485", func := "fourfold/fourfoldlaw07.RotationNorms", spec := "rotationNorms", unfollowed := true, recurses := true, apart := false }
def RotationNormsSaid : Prop := rotationNormsRow.holds Try.pinned (OpenSpec.ofChange rotationNormsSpec)

/-- ITS FALSE NEIGHBOUR: 'it returns false'. Refute it at one input. -/
def rotationNormsWrong : ChangeSpec := { name := "rotationNorms", fn := fun _ => fun
  | [d] => { results := [.lit (.bool false)], args := [d] }
  | _ => none }
def RotationNormsWrongFalsely : Prop := rotationNormsRow.holds Try.pinned (OpenSpec.ofChange rotationNormsWrong)

/-- 'fourfoldlaw07.RotationGcds': WHATEVER THE INPUT: true; the input reads as it did. -/
def rotationGcdsSpec : ChangeSpec := { name := "rotationGcds", fn := fun _ => fun
  | [d1, d2] => { results := [.lit (.bool true)], args := [d1, d2] }
  | _ => none }
def rotationGcdsRow : OpenClaim := { program := "ythajaabgcbjfkaa", sum := "59e59dfde90c6e67a9e443663744a1c18dff54639ed609f7dd801f34608e0485", func := "fourfold/fourfoldlaw07.RotationGcds", spec := "rotationGcds", unfollowed := true, recurses := true, apart := false }
def RotationGcdsSaid : Prop := rotationGcdsRow.holds Try.pinned (OpenSpec.ofChange rotationGcdsSpec)

/-- ITS FALSE NEIGHBOUR: 'it returns false'. Refute it at one input. -/
def rotationGcdsWrong : ChangeSpec := { name := "rotationGcds", fn := fun _ => fun
  | [d1, d2] => { results := [.lit (.bool false)], args := [d1, d2] }
  | _ => none }
def RotationGcdsWrongFalsely : Prop := rotationGcdsRow.holds Try.pinned (OpenSpec.ofChange rotationGcdsWrong)

/-- 'fourfoldlaw07.RotationUnits': WHATEVER THE INPUT: true; the input reads as it did. -/
def rotationUnitsSpec : ChangeSpec := { name := "rotationUnits", fn := fun _ => fun
  | [d1, d2] => { results := [.lit (.bool true)], args := [d1, d2] }
  | _ => none }
def rotationUnitsRow : OpenClaim := { program := "ythajaabgcbjfkaa", sum := "59e59dfde90c6e67a9e443663744a1c18dff54639ed609f7dd801f34608e0485", func := "fourfold/fourfoldlaw07.RotationUnits", spec := "rotationUnits", unfollowed := true, recurses := true, apart := false }
def RotationUnitsSaid : Prop := rotationUnitsRow.holds Try.pinned (OpenSpec.ofChange rotationUnitsSpec)

/-- ITS FALSE NEIGHBOUR: 'it returns false'. Refute it at one input. -/
def rotationUnitsWrong : ChangeSpec := { name := "rotationUnits", fn := fun _ => fun
  | [d1, d2] => { results := [.lit (.bool false)], args := [d1, d2] }
  | _ => none }
def RotationUnitsWrongFalsely : Prop := rotationUnitsRow.holds Try.pinned (OpenSpec.ofChange rotationUnitsWrong)

/-- 'fourfoldlaw07.RotationExchanges': WHATEVER THE INPUT: true; the input reads as it did. -/
def rotationExchangesSpec : ChangeSpec := { name := "rotationExchanges", fn := fun _ => fun
  | [d1, d2] => { results := [.lit (.bool true)], args := [d1, d2] }
  | _ => none }
def rotationExchangesRow : OpenClaim := { program := "ythajaabgcbjfkaa", sum := "59e59dfde90c6e67a9e443663744a1c18dff54639ed609f7dd801f34608e0485", func := "fourfold/fourfoldlaw07.RotationExchanges", spec := "rotationExchanges", unfollowed := true, recurses := true, apart := false }
def RotationExchangesSaid : Prop := rotationExchangesRow.holds Try.pinned (OpenSpec.ofChange rotationExchangesSpec)

/-- ITS FALSE NEIGHBOUR: 'it returns false'. Refute it at one input. -/
def rotationExchangesWrong : ChangeSpec := { name := "rotationExchanges", fn := fun _ => fun
  | [d1, d2] => { results := [.lit (.bool false)], args := [d1, d2] }
  | _ => none }
def RotationExchangesWrongFalsely : Prop := rotationExchangesRow.holds Try.pinned (OpenSpec.ofChange rotationExchangesWrong)

/-- 'fourfoldlaw07.RotationHurwitz': WHATEVER THE INPUT: true; the input reads as it did. -/
def rotationHurwitzSpec : ChangeSpec := { name := "rotationHurwitz", fn := fun _ => fun
  | [d] => { results := [.lit (.bool true)], args := [d] }
  | _ => none }
def rotationHurwitzRow : OpenClaim := { program := "ythajaabgcbjfkaa", sum := "59e59dfde90c6e67a9e443663744a1c18dff54639ed609f7dd801f34608e0485", func := "fourfold/fourfoldlaw07.RotationHurwitz", spec := "rotationHurwitz", unfollowed := true, recurses := true, apart := false }
def RotationHurwitzSaid : Prop := rotationHurwitzRow.holds Try.pinned (OpenSpec.ofChange rotationHurwitzSpec)

/-- ITS FALSE NEIGHBOUR: 'it returns false'. Refute it at one input. -/
def rotationHurwitzWrong : ChangeSpec := { name := "rotationHurwitz", fn := fun _ => fun
  | [d] => { results := [.lit (.bool false)], args := [d] }
  | _ => none }
def RotationHurwitzWrongFalsely : Prop := rotationHurwitzRow.holds Try.pinned (OpenSpec.ofChange rotationHurwitzWrong)

/-- 'fourfoldlaw07.RotationMatrices': WHATEVER THE INPUT: true; the input reads as it did. -/
def rotationMatricesSpec : ChangeSpec := { name := "rotationMatrices", fn := fun _ => fun
  | [d1, d2, d3] => { results := [.lit (.bool true)], args := [d1, d2, d3] }
  | _ => none }
def rotationMatricesRow : OpenClaim := { program := "ythajaabgcbjfkaa", sum := "59e59dfde90c6e67a9e443663744a1c18dff54639ed609f7dd801f34608e0485", func := "fourfold/fourfoldlaw07.RotationMatrices", spec := "rotationMatrices", unfollowed := true, recurses := true, apart := false }
def RotationMatricesSaid : Prop := rotationMatricesRow.holds Try.pinned (OpenSpec.ofChange rotationMatricesSpec)

/-- ITS FALSE NEIGHBOUR: 'it returns false'. Refute it at one input. -/
def rotationMatricesWrong : ChangeSpec := { name := "rotationMatrices", fn := fun _ => fun
  | [d1, d2, d3] => { results := [.lit (.bool false)], args := [d1, d2, d3] }
  | _ => none }
def RotationMatricesWrongFalsely : Prop := rotationMatricesRow.holds Try.pinned (OpenSpec.ofChange rotationMatricesWrong)

/-- 'fourfoldlaw07.RotationHomomorphism': WHATEVER THE INPUT: true; the input reads as it did. -/
def rotationHomomorphismSpec : ChangeSpec := { name := "rotationHomomorphism", fn := fun _ => fun
  | [d1, d2, d3] => { results := [.lit (.bool true)], args := [d1, d2, d3] }
  | _ => none }
def rotationHomomorphismRow : OpenClaim := { program := "ythajaabgcbjfkaa", sum := "59e59dfde90c6e67a9e443663744a1c18dff54639ed609f7dd801f34608e0485", func := "fourfold/fourfoldlaw07.RotationHomomorphism", spec := "rotationHomomorphism", unfollowed := true, recurses := true, apart := false }
def RotationHomomorphismSaid : Prop := rotationHomomorphismRow.holds Try.pinned (OpenSpec.ofChange rotationHomomorphismSpec)

/-- ITS FALSE NEIGHBOUR: 'it returns false'. Refute it at one input. -/
def rotationHomomorphismWrong : ChangeSpec := { name := "rotationHomomorphism", fn := fun _ => fun
  | [d1, d2, d3] => { results := [.lit (.bool false)], args := [d1, d2, d3] }
  | _ => none }
def RotationHomomorphismWrongFalsely : Prop := rotationHomomorphismRow.holds Try.pinned (OpenSpec.ofChange rotationHomomorphismWrong)

/-- 'fourfoldlaw07.RotationActs': WHATEVER THE INPUT: true; the input reads as it did. -/
def rotationActsSpec : ChangeSpec := { name := "rotationActs", fn := fun _ => fun
  | [d1, d2, d3] => { results := [.lit (.bool true)], args := [d1, d2, d3] }
  | _ => none }
def rotationActsRow : OpenClaim := { program := "ythajaabgcbjfkaa", sum := "59e59dfde90c6e67a9e443663744a1c18dff54639ed609f7dd801f34608e0485", func := "fourfold/fourfoldlaw07.RotationActs", spec := "rotationActs", unfollowed := true, recurses := true, apart := false }
def RotationActsSaid : Prop := rotationActsRow.holds Try.pinned (OpenSpec.ofChange rotationActsSpec)

/-- ITS FALSE NEIGHBOUR: 'it returns false'. Refute it at one input. -/
def rotationActsWrong : ChangeSpec := { name := "rotationActs", fn := fun _ => fun
  | [d1, d2, d3] => { results := [.lit (.bool false)], args := [d1, d2, d3] }
  | _ => none }
def RotationActsWrongFalsely : Prop := rotationActsRow.holds Try.pinned (OpenSpec.ofChange rotationActsWrong)

/-- 'fourfoldlaw07.RotationFactors': WHATEVER THE INPUT: true; the input reads as it did. -/
def rotationFactorsSpec : ChangeSpec := { name := "rotationFactors", fn := fun _ => fun
  | [d1, d2] => { results := [.lit (.bool true)], args := [d1, d2] }
  | _ => none }
def rotationFactorsRow : OpenClaim := { program := "ythajaabgcbjfkaa", sum := "59e59dfde90c6e67a9e443663744a1c18dff54639ed609f7dd801f34608e0485", func := "fourfold/fourfoldlaw07.RotationFactors", spec := "rotationFactors", unfollowed := true, recurses := true, apart := false }
def RotationFactorsSaid : Prop := rotationFactorsRow.holds Try.pinned (OpenSpec.ofChange rotationFactorsSpec)

/-- ITS FALSE NEIGHBOUR: 'it returns false'. Refute it at one input. -/
def rotationFactorsWrong : ChangeSpec := { name := "rotationFactors", fn := fun _ => fun
  | [d1, d2] => { results := [.lit (.bool false)], args := [d1, d2] }
  | _ => none }
def RotationFactorsWrongFalsely : Prop := rotationFactorsRow.holds Try.pinned (OpenSpec.ofChange rotationFactorsWrong)

/-- 'fourfoldlaw07.RotationCounts': WHATEVER THE INPUT: true; the input reads as it did. -/
def rotationCountsSpec : ChangeSpec := { name := "rotationCounts", fn := fun _ => fun
  | [d1, d2] => { results := [.lit (.bool true)], args := [d1, d2] }
  | _ => none }
def rotationCountsRow : OpenClaim := { program := "ythajaabgcbjfkaa", sum := "59e59dfde90c6e67a9e443663744a1c18dff54639ed609f7dd801f34608e0485", func := "fourfold/fourfoldlaw07.RotationCounts", spec := "rotationCounts", unfollowed := true, recurses := true, apart := false }
def RotationCountsSaid : Prop := rotationCountsRow.holds Try.pinned (OpenSpec.ofChange rotationCountsSpec)

/-- ITS FALSE NEIGHBOUR: 'it returns false'. Refute it at one input. -/
def rotationCountsWrong : ChangeSpec := { name := "rotationCounts", fn := fun _ => fun
  | [d1, d2] => { results := [.lit (.bool false)], args := [d1, d2] }
  | _ => none }
def RotationCountsWrongFalsely : Prop := rotationCountsRow.holds Try.pinned (OpenSpec.ofChange rotationCountsWrong)

/- THE SECOND FORM. 'bulk': how many values and letters a reading holds, each counted each time it is reached (what is shared counts as often as it is met; a slice's spare places count too). A statement '..UptoSaid' is the law's where the arguments, and the package variables that the reading takes, are together of bulk at most 1048576: NARROWER than '..Said'. Prove '..Said' where nothing that the law and all that it calls make is longer than what came in: it says more and counts as full. Else prove '..UptoSaid'. A law counts once. -/
mutual
def uptoBulk {H : Type} : DataW H → Nat
  | .lit (.string bytes) => bytes.length + 1
  | .lit _ => 1
  | .nil => 1
  | .ptr d => uptoBulk d + 1
  | .slice elems spare => uptoBulkAll elems + uptoBulkAll spare + 1
  | .agg parts => uptoBulkAll parts + 1
  | .iface _ d => uptoBulk d + 1
  | .map entries => uptoBulkEntries entries + 1
  | .held _ => 1
def uptoBulkAll {H : Type} : List (DataW H) → Nat
  | [] => 0
  | d :: r => uptoBulk d + uptoBulkAll r
def uptoBulkEntries {H : Type} : List (Lit × DataW H) → Nat
  | [] => 0
  | x :: r => uptoBulkEntry x + uptoBulkEntries r
def uptoBulkEntry {H : Type} : Lit × DataW H → Nat
  | (.string bytes, d) => bytes.length + uptoBulk d + 1
  | (_, d) => uptoBulk d + 1
 end
def uptoSmall : (H : Type) → List (DataW H) → Bool := fun _ ds => decide (uptoBulkAll ds ≤ 1048576)
def OpenSpec.upto (s : _root_.Go.ChangeSpec) : _root_.Go.OpenSpec := { _root_.Go.OpenSpec.ofChange s with cond := some uptoSmall }

/-- 'fourfoldlaw07.RotationDivides', WHERE WHAT IT READS IS OF BULK AT MOST 1048576: true; the input reads as it did. -/
def rotationDividesUptoRow : OpenClaim := { program := "ythajaabgcbjfkaa", sum := "59e59dfde90c6e67a9e443663744a1c18dff54639ed609f7dd801f34608e0485", func := "fourfold/fourfoldlaw07.RotationDivides", spec := "rotationDivides", unfollowed := true, recurses := true, apart := false, narrowed := true }
def RotationDividesUptoSaid : Prop := rotationDividesUptoRow.holds Try.pinned (OpenSpec.upto rotationDividesSpec)

/-- 'fourfoldlaw07.RotationNorms', WHERE WHAT IT READS IS OF BULK AT MOST 1048576: true; the input reads as it did. -/
def rotationNormsUptoRow : OpenClaim := { program := "ythajaabgcbjfkaa", sum := "59e59dfde90c6e67a9e443663744a1c18dff54639ed609f7dd801f34608e0485", func := "fourfold/fourfoldlaw07.RotationNorms", spec := "rotationNorms", unfollowed := true, recurses := true, apart := false, narrowed := true }
def RotationNormsUptoSaid : Prop := rotationNormsUptoRow.holds Try.pinned (OpenSpec.upto rotationNormsSpec)

/-- 'fourfoldlaw07.RotationGcds', WHERE WHAT IT READS IS OF BULK AT MOST 1048576: true; the input reads as it did. -/
def rotationGcdsUptoRow : OpenClaim := { program := "ythajaabgcbjfkaa", sum := "59e59dfde90c6e67a9e443663744a1c18dff54639ed609f7dd801f34608e0485", func := "fourfold/fourfoldlaw07.RotationGcds", spec := "rotationGcds", unfollowed := true, recurses := true, apart := false, narrowed := true }
def RotationGcdsUptoSaid : Prop := rotationGcdsUptoRow.holds Try.pinned (OpenSpec.upto rotationGcdsSpec)

/-- 'fourfoldlaw07.RotationUnits', WHERE WHAT IT READS IS OF BULK AT MOST 1048576: true; the input reads as it did. -/
def rotationUnitsUptoRow : OpenClaim := { program := "ythajaabgcbjfkaa", sum := "59e59dfde90c6e67a9e443663744a1c18dff54639ed609f7dd801f34608e0485", func := "fourfold/fourfoldlaw07.RotationUnits", spec := "rotationUnits", unfollowed := true, recurses := true, apart := false, narrowed := true }
def RotationUnitsUptoSaid : Prop := rotationUnitsUptoRow.holds Try.pinned (OpenSpec.upto rotationUnitsSpec)

/-- 'fourfoldlaw07.RotationExchanges', WHERE WHAT IT READS IS OF BULK AT MOST 1048576: true; the input reads as it did. -/
def rotationExchangesUptoRow : OpenClaim := { program := "ythajaabgcbjfkaa", sum := "59e59dfde90c6e67a9e443663744a1c18dff54639ed609f7dd801f34608e0485", func := "fourfold/fourfoldlaw07.RotationExchanges", spec := "rotationExchanges", unfollowed := true, recurses := true, apart := false, narrowed := true }
def RotationExchangesUptoSaid : Prop := rotationExchangesUptoRow.holds Try.pinned (OpenSpec.upto rotationExchangesSpec)

/-- 'fourfoldlaw07.RotationHurwitz', WHERE WHAT IT READS IS OF BULK AT MOST 1048576: true; the input reads as it did. -/
def rotationHurwitzUptoRow : OpenClaim := { program := "ythajaabgcbjfkaa", sum := "59e59dfde90c6e67a9e443663744a1c18dff54639ed609f7dd801f34608e0485", func := "fourfold/fourfoldlaw07.RotationHurwitz", spec := "rotationHurwitz", unfollowed := true, recurses := true, apart := false, narrowed := true }
def RotationHurwitzUptoSaid : Prop := rotationHurwitzUptoRow.holds Try.pinned (OpenSpec.upto rotationHurwitzSpec)

/-- 'fourfoldlaw07.RotationMatrices', WHERE WHAT IT READS IS OF BULK AT MOST 1048576: true; the input reads as it did. -/
def rotationMatricesUptoRow : OpenClaim := { program := "ythajaabgcbjfkaa", sum := "59e59dfde90c6e67a9e443663744a1c18dff54639ed609f7dd801f34608e0485", func := "fourfold/fourfoldlaw07.RotationMatrices", spec := "rotationMatrices", unfollowed := true, recurses := true, apart := false, narrowed := true }
def RotationMatricesUptoSaid : Prop := rotationMatricesUptoRow.holds Try.pinned (OpenSpec.upto rotationMatricesSpec)

/-- 'fourfoldlaw07.RotationHomomorphism', WHERE WHAT IT READS IS OF BULK AT MOST 1048576: true; the input reads as it did. -/
def rotationHomomorphismUptoRow : OpenClaim := { program := "ythajaabgcbjfkaa", sum := "59e59dfde90c6e67a9e443663744a1c18dff54639ed609f7dd801f34608e0485", func := "fourfold/fourfoldlaw07.RotationHomomorphism", spec := "rotationHomomorphism", unfollowed := true, recurses := true, apart := false, narrowed := true }
def RotationHomomorphismUptoSaid : Prop := rotationHomomorphismUptoRow.holds Try.pinned (OpenSpec.upto rotationHomomorphismSpec)

/-- 'fourfoldlaw07.RotationActs', WHERE WHAT IT READS IS OF BULK AT MOST 1048576: true; the input reads as it did. -/
def rotationActsUptoRow : OpenClaim := { program := "ythajaabgcbjfkaa", sum := "59e59dfde90c6e67a9e443663744a1c18dff54639ed609f7dd801f34608e0485", func := "fourfold/fourfoldlaw07.RotationActs", spec := "rotationActs", unfollowed := true, recurses := true, apart := false, narrowed := true }
def RotationActsUptoSaid : Prop := rotationActsUptoRow.holds Try.pinned (OpenSpec.upto rotationActsSpec)

/-- 'fourfoldlaw07.RotationFactors', WHERE WHAT IT READS IS OF BULK AT MOST 1048576: true; the input reads as it did. -/
def rotationFactorsUptoRow : OpenClaim := { program := "ythajaabgcbjfkaa", sum := "59e59dfde90c6e67a9e443663744a1c18dff54639ed609f7dd801f34608e0485", func := "fourfold/fourfoldlaw07.RotationFactors", spec := "rotationFactors", unfollowed := true, recurses := true, apart := false, narrowed := true }
def RotationFactorsUptoSaid : Prop := rotationFactorsUptoRow.holds Try.pinned (OpenSpec.upto rotationFactorsSpec)

/-- 'fourfoldlaw07.RotationCounts', WHERE WHAT IT READS IS OF BULK AT MOST 1048576: true; the input reads as it did. -/
def rotationCountsUptoRow : OpenClaim := { program := "ythajaabgcbjfkaa", sum := "59e59dfde90c6e67a9e443663744a1c18dff54639ed609f7dd801f34608e0485", func := "fourfold/fourfoldlaw07.RotationCounts", spec := "rotationCounts", unfollowed := true, recurses := true, apart := false, narrowed := true }
def RotationCountsUptoSaid : Prop := rotationCountsUptoRow.holds Try.pinned (OpenSpec.upto rotationCountsSpec)

end Rows
end Go.Proofs.Ythajaabgcbjfkaa
