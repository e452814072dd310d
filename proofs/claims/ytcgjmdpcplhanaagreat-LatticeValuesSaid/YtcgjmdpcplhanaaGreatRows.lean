/-
  No cell of these rows narrows 'for every input' (looked for: loops, veiled, ifaces, maps, wideKeys, modest, calm, conditions, laid).
  DERIVED. THE GIVEN ROWS OF THIS SEAT. 11 by the template 'for every input the law returns true; each argument reads behind the call as it read before'; 0 by the template 'total and deterministic' (their statements: YtcgjmdpcplhanaaGreatTotals.lean).
  GIVEN WITH THE SEED: the statements are not yours to turn. If you find one false, say at which input.
  Laid BY PROGRAM, IN A SANDBOX (cutbox-rows.mjs): the forced cells as the released guide's own fill.sh prints them over the translation 094c41a3ec51884c… (all of the seat's roots in one cut). By AI agents, Wed Nov 11 2026. No macro, syntax, notation, axiom, sorry.
-/
import Derived.Test.YtcgjmdpcplhanaaGreatChecked
import GoSem.Claim
import GoSem.ClaimJoined
import GoSem.ClaimMapViews
import Derived.JoinedTies
import Derived.KernelRfl
namespace Go.Proofs.YtcgjmdpcplhanaaGreat
/- THE CELL 'sum', in the pinned program and in every row, IS THE sha256 OF THE DUMP (.gsa) THAT YtcgjmdpcplhanaaGreatProg.lean LOADS. Nothing in Lean hashes anything: it is a label: what it is worth is what the hold of that sum in a sandbox is worth. -/
noncomputable def Tryz.pinned : Pinned := { name := "ytcgjmdpcplhanaagreat", sum := "094c41a3ec51884cace62c129feff869dbba3905ce0399dbea98174391191886", checked := Tryz.checked }
namespace Rows
def none {H : Type} : Left H := { results := [], args := [] }

/-- 'fourfoldlaw02.LatticeHermite': WHATEVER THE INPUT: true; the input reads as it did. -/
def latticeHermiteSpec : ChangeSpec := { name := "latticeHermite", fn := fun _ => fun
  | [d1, d2, d3] => { results := [.lit (.bool true)], args := [d1, d2, d3] }
  | _ => none }
def latticeHermiteRow : OpenClaim := { program := "ytcgjmdpcplhanaagreat", sum := "094c41a3ec51884cace62c129feff869dbba3905ce0399dbea98174391191886", func := "fourfold/fourfoldlaw02.LatticeHermite", spec := "latticeHermite", unfollowed := true, recurses := true, apart := false }
def LatticeHermiteSaid : Prop := latticeHermiteRow.holds Tryz.pinned (OpenSpec.ofChange latticeHermiteSpec)

/-- ITS FALSE NEIGHBOUR: 'it returns false'. Refute it at one input. -/
def latticeHermiteWrong : ChangeSpec := { name := "latticeHermite", fn := fun _ => fun
  | [d1, d2, d3] => { results := [.lit (.bool false)], args := [d1, d2, d3] }
  | _ => none }
def LatticeHermiteWrongFalsely : Prop := latticeHermiteRow.holds Tryz.pinned (OpenSpec.ofChange latticeHermiteWrong)

/-- 'fourfoldlaw02.LatticeKernel': WHATEVER THE INPUT: true; the input reads as it did. -/
def latticeKernelSpec : ChangeSpec := { name := "latticeKernel", fn := fun _ => fun
  | [d] => { results := [.lit (.bool true)], args := [d] }
  | _ => none }
def latticeKernelRow : OpenClaim := { program := "ytcgjmdpcplhanaagreat", sum := "094c41a3ec51884cace62c129feff869dbba3905ce0399dbea98174391191886", func := "fourfold/fourfoldlaw02.LatticeKernel", spec := "latticeKernel", unfollowed := true, recurses := true, apart := false }
def LatticeKernelSaid : Prop := latticeKernelRow.holds Tryz.pinned (OpenSpec.ofChange latticeKernelSpec)

/-- ITS FALSE NEIGHBOUR: 'it returns false'. Refute it at one input. -/
def latticeKernelWrong : ChangeSpec := { name := "latticeKernel", fn := fun _ => fun
  | [d] => { results := [.lit (.bool false)], args := [d] }
  | _ => none }
def LatticeKernelWrongFalsely : Prop := latticeKernelRow.holds Tryz.pinned (OpenSpec.ofChange latticeKernelWrong)

/-- 'fourfoldlaw02.LatticeNormals': WHATEVER THE INPUT: true; the input reads as it did. -/
def latticeNormalsSpec : ChangeSpec := { name := "latticeNormals", fn := fun _ => fun
  | [d] => { results := [.lit (.bool true)], args := [d] }
  | _ => none }
def latticeNormalsRow : OpenClaim := { program := "ytcgjmdpcplhanaagreat", sum := "094c41a3ec51884cace62c129feff869dbba3905ce0399dbea98174391191886", func := "fourfold/fourfoldlaw02.LatticeNormals", spec := "latticeNormals", unfollowed := true, recurses := true, apart := false }
def LatticeNormalsSaid : Prop := latticeNormalsRow.holds Tryz.pinned (OpenSpec.ofChange latticeNormalsSpec)

/-- ITS FALSE NEIGHBOUR: 'it returns false'. Refute it at one input. -/
def latticeNormalsWrong : ChangeSpec := { name := "latticeNormals", fn := fun _ => fun
  | [d] => { results := [.lit (.bool false)], args := [d] }
  | _ => none }
def LatticeNormalsWrongFalsely : Prop := latticeNormalsRow.holds Tryz.pinned (OpenSpec.ofChange latticeNormalsWrong)

/-- 'fourfoldlaw02.LatticeDuals': WHATEVER THE INPUT: true; the input reads as it did. -/
def latticeDualsSpec : ChangeSpec := { name := "latticeDuals", fn := fun _ => fun
  | [d1, d2] => { results := [.lit (.bool true)], args := [d1, d2] }
  | _ => none }
def latticeDualsRow : OpenClaim := { program := "ytcgjmdpcplhanaagreat", sum := "094c41a3ec51884cace62c129feff869dbba3905ce0399dbea98174391191886", func := "fourfold/fourfoldlaw02.LatticeDuals", spec := "latticeDuals", unfollowed := true, recurses := true, apart := false }
def LatticeDualsSaid : Prop := latticeDualsRow.holds Tryz.pinned (OpenSpec.ofChange latticeDualsSpec)

/-- ITS FALSE NEIGHBOUR: 'it returns false'. Refute it at one input. -/
def latticeDualsWrong : ChangeSpec := { name := "latticeDuals", fn := fun _ => fun
  | [d1, d2] => { results := [.lit (.bool false)], args := [d1, d2] }
  | _ => none }
def LatticeDualsWrongFalsely : Prop := latticeDualsRow.holds Tryz.pinned (OpenSpec.ofChange latticeDualsWrong)

/-- 'fourfoldlaw02.LatticeMatrices': WHATEVER THE INPUT: true; the input reads as it did. -/
def latticeMatricesSpec : ChangeSpec := { name := "latticeMatrices", fn := fun _ => fun
  | [d] => { results := [.lit (.bool true)], args := [d] }
  | _ => none }
def latticeMatricesRow : OpenClaim := { program := "ytcgjmdpcplhanaagreat", sum := "094c41a3ec51884cace62c129feff869dbba3905ce0399dbea98174391191886", func := "fourfold/fourfoldlaw02.LatticeMatrices", spec := "latticeMatrices", unfollowed := true, recurses := true, apart := false }
def LatticeMatricesSaid : Prop := latticeMatricesRow.holds Tryz.pinned (OpenSpec.ofChange latticeMatricesSpec)

/-- ITS FALSE NEIGHBOUR: 'it returns false'. Refute it at one input. -/
def latticeMatricesWrong : ChangeSpec := { name := "latticeMatrices", fn := fun _ => fun
  | [d] => { results := [.lit (.bool false)], args := [d] }
  | _ => none }
def LatticeMatricesWrongFalsely : Prop := latticeMatricesRow.holds Tryz.pinned (OpenSpec.ofChange latticeMatricesWrong)

/-- 'fourfoldlaw02.LatticeGrams': WHATEVER THE INPUT: true; the input reads as it did. -/
def latticeGramsSpec : ChangeSpec := { name := "latticeGrams", fn := fun _ => fun
  | [d1, d2] => { results := [.lit (.bool true)], args := [d1, d2] }
  | _ => none }
def latticeGramsRow : OpenClaim := { program := "ytcgjmdpcplhanaagreat", sum := "094c41a3ec51884cace62c129feff869dbba3905ce0399dbea98174391191886", func := "fourfold/fourfoldlaw02.LatticeGrams", spec := "latticeGrams", unfollowed := true, recurses := true, apart := false }
def LatticeGramsSaid : Prop := latticeGramsRow.holds Tryz.pinned (OpenSpec.ofChange latticeGramsSpec)

/-- ITS FALSE NEIGHBOUR: 'it returns false'. Refute it at one input. -/
def latticeGramsWrong : ChangeSpec := { name := "latticeGrams", fn := fun _ => fun
  | [d1, d2] => { results := [.lit (.bool false)], args := [d1, d2] }
  | _ => none }
def LatticeGramsWrongFalsely : Prop := latticeGramsRow.holds Tryz.pinned (OpenSpec.ofChange latticeGramsWrong)

/-- 'fourfoldlaw02.LatticeImages': WHATEVER THE INPUT: true; the input reads as it did. -/
def latticeImagesSpec : ChangeSpec := { name := "latticeImages", fn := fun _ => fun
  | [d1, d2, d3] => { results := [.lit (.bool true)], args := [d1, d2, d3] }
  | _ => none }
def latticeImagesRow : OpenClaim := { program := "ytcgjmdpcplhanaagreat", sum := "094c41a3ec51884cace62c129feff869dbba3905ce0399dbea98174391191886", func := "fourfold/fourfoldlaw02.LatticeImages", spec := "latticeImages", unfollowed := true, recurses := true, apart := false }
def LatticeImagesSaid : Prop := latticeImagesRow.holds Tryz.pinned (OpenSpec.ofChange latticeImagesSpec)

/-- ITS FALSE NEIGHBOUR: 'it returns false'. Refute it at one input. -/
def latticeImagesWrong : ChangeSpec := { name := "latticeImages", fn := fun _ => fun
  | [d1, d2, d3] => { results := [.lit (.bool false)], args := [d1, d2, d3] }
  | _ => none }
def LatticeImagesWrongFalsely : Prop := latticeImagesRow.holds Tryz.pinned (OpenSpec.ofChange latticeImagesWrong)

/-- 'fourfoldlaw02.LatticeMembers': WHATEVER THE INPUT: true; the input reads as it did. -/
def latticeMembersSpec : ChangeSpec := { name := "latticeMembers", fn := fun _ => fun
  | [d1, d2] => { results := [.lit (.bool true)], args := [d1, d2] }
  | _ => none }
def latticeMembersRow : OpenClaim := { program := "ytcgjmdpcplhanaagreat", sum := "094c41a3ec51884cace62c129feff869dbba3905ce0399dbea98174391191886", func := "fourfold/fourfoldlaw02.LatticeMembers", spec := "latticeMembers", unfollowed := true, recurses := true, apart := false }
def LatticeMembersSaid : Prop := latticeMembersRow.holds Tryz.pinned (OpenSpec.ofChange latticeMembersSpec)

/-- ITS FALSE NEIGHBOUR: 'it returns false'. Refute it at one input. -/
def latticeMembersWrong : ChangeSpec := { name := "latticeMembers", fn := fun _ => fun
  | [d1, d2] => { results := [.lit (.bool false)], args := [d1, d2] }
  | _ => none }
def LatticeMembersWrongFalsely : Prop := latticeMembersRow.holds Tryz.pinned (OpenSpec.ofChange latticeMembersWrong)

/-- 'fourfoldlaw02.LatticeValues': WHATEVER THE INPUT: true; the input reads as it did. -/
def latticeValuesSpec : ChangeSpec := { name := "latticeValues", fn := fun _ => fun
  | [d1, d2] => { results := [.lit (.bool true)], args := [d1, d2] }
  | _ => none }
def latticeValuesRow : OpenClaim := { program := "ytcgjmdpcplhanaagreat", sum := "094c41a3ec51884cace62c129feff869dbba3905ce0399dbea98174391191886", func := "fourfold/fourfoldlaw02.LatticeValues", spec := "latticeValues", unfollowed := true, recurses := true, apart := false }
def LatticeValuesSaid : Prop := latticeValuesRow.holds Tryz.pinned (OpenSpec.ofChange latticeValuesSpec)

/-- ITS FALSE NEIGHBOUR: 'it returns false'. Refute it at one input. -/
def latticeValuesWrong : ChangeSpec := { name := "latticeValues", fn := fun _ => fun
  | [d1, d2] => { results := [.lit (.bool false)], args := [d1, d2] }
  | _ => none }
def LatticeValuesWrongFalsely : Prop := latticeValuesRow.holds Tryz.pinned (OpenSpec.ofChange latticeValuesWrong)

/-- 'fourfoldlaw02.LatticeIndex': WHATEVER THE INPUT: true; the input reads as it did. -/
def latticeIndexSpec : ChangeSpec := { name := "latticeIndex", fn := fun _ => fun
  | [d1, d2] => { results := [.lit (.bool true)], args := [d1, d2] }
  | _ => none }
def latticeIndexRow : OpenClaim := { program := "ytcgjmdpcplhanaagreat", sum := "094c41a3ec51884cace62c129feff869dbba3905ce0399dbea98174391191886", func := "fourfold/fourfoldlaw02.LatticeIndex", spec := "latticeIndex", unfollowed := true, recurses := true, apart := false }
def LatticeIndexSaid : Prop := latticeIndexRow.holds Tryz.pinned (OpenSpec.ofChange latticeIndexSpec)

/-- ITS FALSE NEIGHBOUR: 'it returns false'. Refute it at one input. -/
def latticeIndexWrong : ChangeSpec := { name := "latticeIndex", fn := fun _ => fun
  | [d1, d2] => { results := [.lit (.bool false)], args := [d1, d2] }
  | _ => none }
def LatticeIndexWrongFalsely : Prop := latticeIndexRow.holds Tryz.pinned (OpenSpec.ofChange latticeIndexWrong)

/-- 'fourfoldlaw02.LatticeSums': WHATEVER THE INPUT: true; the input reads as it did. -/
def latticeSumsSpec : ChangeSpec := { name := "latticeSums", fn := fun _ => fun
  | [d1, d2] => { results := [.lit (.bool true)], args := [d1, d2] }
  | _ => none }
def latticeSumsRow : OpenClaim := { program := "ytcgjmdpcplhanaagreat", sum := "094c41a3ec51884cace62c129feff869dbba3905ce0399dbea98174391191886", func := "fourfold/fourfoldlaw02.LatticeSums", spec := "latticeSums", unfollowed := true, recurses := true, apart := false }
def LatticeSumsSaid : Prop := latticeSumsRow.holds Tryz.pinned (OpenSpec.ofChange latticeSumsSpec)

/-- ITS FALSE NEIGHBOUR: 'it returns false'. Refute it at one input. -/
def latticeSumsWrong : ChangeSpec := { name := "latticeSums", fn := fun _ => fun
  | [d1, d2] => { results := [.lit (.bool false)], args := [d1, d2] }
  | _ => none }
def LatticeSumsWrongFalsely : Prop := latticeSumsRow.holds Tryz.pinned (OpenSpec.ofChange latticeSumsWrong)

/- THE SECOND FORM. 'bulk': how many values and letters a reading holds, each counted each time it is reached (what is shared counts as often as it is met; a slice's spare places count too). A statement '..UptoSaid' is the law's where the arguments, and the package variables that the reading takes, are together of bulk at most 1048576: NARROWER than '..Said'. Prove '..Said' where nothing that the law and all that it calls make is longer than what came in: it says more and counts as full. Else prove '..UptoSaid'. A law counts once. -/
mutual
def uptoBulk {H : Type} : DataW H → Nat
  | .lit (.string bytes) => bytes.length + 1
  | .lit _ => 1
  | .nil => 1
  | .ptr d => uptoBulk d + 1
  | .slice elems spare => uptoBulkAll elems + uptoBulkAll spare + 1
  | .agg parts => uptoBulkAll parts + 1
  | .iface _ d => uptoBulk d + 1
  | .map entries => uptoBulkEntries entries + 1
  | .held _ => 1
def uptoBulkAll {H : Type} : List (DataW H) → Nat
  | [] => 0
  | d :: r => uptoBulk d + uptoBulkAll r
def uptoBulkEntries {H : Type} : List (Lit × DataW H) → Nat
  | [] => 0
  | x :: r => uptoBulkEntry x + uptoBulkEntries r
def uptoBulkEntry {H : Type} : Lit × DataW H → Nat
  | (.string bytes, d) => bytes.length + uptoBulk d + 1
  | (_, d) => uptoBulk d + 1
 end
def uptoSmall : (H : Type) → List (DataW H) → Bool := fun _ ds => decide (uptoBulkAll ds ≤ 1048576)
def OpenSpec.upto (s : _root_.Go.ChangeSpec) : _root_.Go.OpenSpec := { _root_.Go.OpenSpec.ofChange s with cond := some uptoSmall }

/-- 'fourfoldlaw02.LatticeHermite', WHERE WHAT IT READS IS OF BULK AT MOST 1048576: true; the input reads as it did. -/
def latticeHermiteUptoRow : OpenClaim := { program := "ytcgjmdpcplhanaagreat", sum := "094c41a3ec51884cace62c129feff869dbba3905ce0399dbea98174391191886", func := "fourfold/fourfoldlaw02.LatticeHermite", spec := "latticeHermite", unfollowed := true, recurses := true, apart := false, narrowed := true }
def LatticeHermiteUptoSaid : Prop := latticeHermiteUptoRow.holds Tryz.pinned (OpenSpec.upto latticeHermiteSpec)

/-- 'fourfoldlaw02.LatticeKernel', WHERE WHAT IT READS IS OF BULK AT MOST 1048576: true; the input reads as it did. -/
def latticeKernelUptoRow : OpenClaim := { program := "ytcgjmdpcplhanaagreat", sum := "094c41a3ec51884cace62c129feff869dbba3905ce0399dbea98174391191886", func := "fourfold/fourfoldlaw02.LatticeKernel", spec := "latticeKernel", unfollowed := true, recurses := true, apart := false, narrowed := true }
def LatticeKernelUptoSaid : Prop := latticeKernelUptoRow.holds Tryz.pinned (OpenSpec.upto latticeKernelSpec)

/-- 'fourfoldlaw02.LatticeNormals', WHERE WHAT IT READS IS OF BULK AT MOST 1048576: true; the input reads as it did. -/
def latticeNormalsUptoRow : OpenClaim := { program := "ytcgjmdpcplhanaagreat", sum := "094c41a3ec51884cace62c129feff869dbba3905ce0399dbea98174391191886", func := "fourfold/fourfoldlaw02.LatticeNormals", spec := "latticeNormals", unfollowed := true, recurses := true, apart := false, narrowed := true }
def LatticeNormalsUptoSaid : Prop := latticeNormalsUptoRow.holds Tryz.pinned (OpenSpec.upto latticeNormalsSpec)

/-- 'fourfoldlaw02.LatticeDuals', WHERE WHAT IT READS IS OF BULK AT MOST 1048576: true; the input reads as it did. -/
def latticeDualsUptoRow : OpenClaim := { program := "ytcgjmdpcplhanaagreat", sum := "094c41a3ec51884cace62c129feff869dbba3905ce0399dbea98174391191886", func := "fourfold/fourfoldlaw02.LatticeDuals", spec := "latticeDuals", unfollowed := true, recurses := true, apart := false, narrowed := true }
def LatticeDualsUptoSaid : Prop := latticeDualsUptoRow.holds Tryz.pinned (OpenSpec.upto latticeDualsSpec)

/-- 'fourfoldlaw02.LatticeMatrices', WHERE WHAT IT READS IS OF BULK AT MOST 1048576: true; the input reads as it did. -/
def latticeMatricesUptoRow : OpenClaim := { program := "ytcgjmdpcplhanaagreat", sum := "094c41a3ec51884cace62c129feff869dbba3905ce0399dbea98174391191886", func := "fourfold/fourfoldlaw02.LatticeMatrices", spec := "latticeMatrices", unfollowed := true, recurses := true, apart := false, narrowed := true }
def LatticeMatricesUptoSaid : Prop := latticeMatricesUptoRow.holds Tryz.pinned (OpenSpec.upto latticeMatricesSpec)

/-- 'fourfoldlaw02.LatticeGrams', WHERE WHAT IT READS IS OF BULK AT MOST 1048576: true; the input reads as it did. -/
def latticeGramsUptoRow : OpenClaim := { program := "ytcgjmdpcplhanaagreat", sum := "094c41a3ec51884cace62c129feff869dbba3905ce0399dbea98174391191886", func := "fourfold/fourfoldlaw02.LatticeGrams", spec := "latticeGrams", unfollowed := true, recurses := true, apart := false, narrowed := true }
def LatticeGramsUptoSaid : Prop := latticeGramsUptoRow.holds Tryz.pinned (OpenSpec.upto latticeGramsSpec)

/-- 'fourfoldlaw02.LatticeImages', WHERE WHAT IT READS IS OF BULK AT MOST 1048576: true; the input reads as it did. -/
def latticeImagesUptoRow : OpenClaim := { program := "ytcgjmdpcplhanaagreat", sum := "094c41a3ec51884cace62c129feff869dbba3905ce0399dbea98174391191886", func := "fourfold/fourfoldlaw02.LatticeImages", spec := "latticeImages", unfollowed := true, recurses := true, apart := false, narrowed := true }
def LatticeImagesUptoSaid : Prop := latticeImagesUptoRow.holds Tryz.pinned (OpenSpec.upto latticeImagesSpec)

/-- 'fourfoldlaw02.LatticeMembers', WHERE WHAT IT READS IS OF BULK AT MOST 1048576: true; the input reads as it did. -/
def latticeMembersUptoRow : OpenClaim := { program := "ytcgjmdpcplhanaagreat", sum := "094c41a3ec51884cace62c129feff869dbba3905ce0399dbea98174391191886", func := "fourfold/fourfoldlaw02.LatticeMembers", spec := "latticeMembers", unfollowed := true, recurses := true, apart := false, narrowed := true }
def LatticeMembersUptoSaid : Prop := latticeMembersUptoRow.holds Tryz.pinned (OpenSpec.upto latticeMembersSpec)

/-- 'fourfoldlaw02.LatticeValues', WHERE WHAT IT READS IS OF BULK AT MOST 1048576: true; the input reads as it did. -/
def latticeValuesUptoRow : OpenClaim := { program := "ytcgjmdpcplhanaagreat", sum := "094c41a3ec51884cace62c129feff869dbba3905ce0399dbea98174391191886", func := "fourfold/fourfoldlaw02.LatticeValues", spec := "latticeValues", unfollowed := true, recurses := true, apart := false, narrowed := true }
def LatticeValuesUptoSaid : Prop := latticeValuesUptoRow.holds Tryz.pinned (OpenSpec.upto latticeValuesSpec)

/-- 'fourfoldlaw02.LatticeIndex', WHERE WHAT IT READS IS OF BULK AT MOST 1048576: true; the input reads as it did. -/
def latticeIndexUptoRow : OpenClaim := { program := "ytcgjmdpcplhanaagreat", sum := "094c41a3ec51884cace62c129feff869dbba3905ce0399dbea98174391191886", func := "fourfold/fourfoldlaw02.LatticeIndex", spec := "latticeIndex", unfollowed := true, recurses := true, apart := false, narrowed := true }
def LatticeIndexUptoSaid : Prop := latticeIndexUptoRow.holds Tryz.pinned (OpenSpec.upto latticeIndexSpec)

/-- 'fourfoldlaw02.LatticeSums', WHERE WHAT IT READS IS OF BULK AT MOST 1048576: true; the input reads as it did. -/
def latticeSumsUptoRow : OpenClaim := { program := "ytcgjmdpcplhanaagreat", sum := "094c41a3ec51884cace62c129feff869dbba3905ce0399dbea98174391191886", func := "fourfold/fourfoldlaw02.LatticeSums", spec := "latticeSums", unfollowed := true, recurses := true, apart := false, narrowed := true }
def LatticeSumsUptoSaid : Prop := latticeSumsUptoRow.holds Tryz.pinned (OpenSpec.upto latticeSumsSpec)

end Rows
end Go.Proofs.YtcgjmdpcplhanaaGreat
