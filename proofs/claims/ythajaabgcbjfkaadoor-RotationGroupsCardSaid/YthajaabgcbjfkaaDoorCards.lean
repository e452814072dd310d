/-
  DERIVED. GIVEN WITH THE SEED: THE CARDS: each row of YthajaabgcbjfkaaDoorRows.lean that lists a variable, with what it lists TIED to the program's text (the seventh form; the later family's looks); each row that meets fmt, with fmt's text TOLD by the authors' own Lean function (tested against real Go, not proved from fmt's source: count such statements apart). THE CARD IS WHAT COUNTS. Prove the row's statement (the work); the ties are given (YthajaabgcbjfkaaDoorTie.lean); close each card by the builder's one call (the guide's Derived/Test/ToyasCard.lean, 'card_holds'). Laid BY PROGRAM, IN A SANDBOX (cutbox-door.mjs). By AI agents, Wed Nov 11 2026. No macro, syntax, notation, axiom, sorry.
-/
import Derived.Test.YthajaabgcbjfkaaDoorRows
import GoSem.ClaimSeven
namespace Go.Proofs.YthajaabgcbjfkaaDoor
namespace Rows

/-- THE TIED CARD OF 'fourfoldlaw07.RotationGroups'. -/
def rotationGroupsCard : Claim7 := { stood := { row := rotationGroupsRow, standIns := [], harness := (true, "f58da88728a6e557ee921344cc966cd857c02d20a9e33d57e200377974aae031"), looks := false }, kinds := [], alts := [], laidByText := true, laidKinds := [.data], laidTests := true, laidLooks := .later }
def RotationGroupsCardSaid : Prop := Claim7.holds Tryd.pinned (.plain (OpenSpec.ofChange rotationGroupsSpec)) rotationGroupsCard

/-- THE SECOND FORM's CARD OF 'fourfoldlaw07.RotationGroups'. -/
def rotationGroupsUptoCard : Claim7 := { stood := { row := rotationGroupsUptoRow, standIns := [], harness := (true, "f58da88728a6e557ee921344cc966cd857c02d20a9e33d57e200377974aae031"), looks := false }, kinds := [], alts := [], laidByText := true, laidKinds := [.data], laidTests := true, laidLooks := .later }
def RotationGroupsUptoCardSaid : Prop := Claim7.holds Tryd.pinned (.plain (OpenSpec.upto rotationGroupsSpec)) rotationGroupsUptoCard
end Rows
end Go.Proofs.YthajaabgcbjfkaaDoor
