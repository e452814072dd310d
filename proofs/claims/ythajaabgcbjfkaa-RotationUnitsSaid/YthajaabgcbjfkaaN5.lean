/- Plain: lists of norms, by the kernel. -/
import Derived.Test.YthajaabgcbjfkaaN2
namespace Go.Proofs.Ythajaabgcbjfkaa
open Go.RowKit

instance : DecidableEq Qd := fun _ _ => decidable_of_iff _ Qd.eqb_iff
def canonE (x : Qt) : Qt := unitsE.foldl (canStep x) x
theorem canonE_eq : canon = canonE := by funext x; unfold canon canonE; rw [unitsL_eq]
def rowYE (n w x y : Int) : List Qt :=
  if restN n w x y < 0 ∨ (w - x) % 2 ≠ 0 ∨ (w - y) % 2 ≠ 0 then [] else
  if (zs (restN n w x y).toNat : Int) * zs (restN n w x y).toNat ≠ restN n w x y ∨ (w - zs (restN n w x y).toNat) % 2 ≠ 0 then [] else
  (candS w x y (zs (restN n w x y).toNat)).filter fun h => decide (canonE h = h)
theorem rowYE_eq : rowY = rowYE := by
  funext n w x y
  unfold rowY rowYE
  rw [canonE_eq]
def ofNormE (n : Nat) : List Qt := (List.range (up (4 * n) - 1)).flatMap fun (i : Nat) => if (i + 1) * (i + 1) < n then [] else
  (List.range (2 * (i + 1) + 1)).flatMap fun (a : Nat) => (List.range (2 * (i + 1) + 1)).flatMap fun (b : Nat) => rowYE n ((i + 1 : Nat) : Int) (-((i + 1 : Nat) : Int) + a) (-((i + 1 : Nat) : Int) + b)
theorem ofNormE_eq (n : Nat) : ofNormC n = ofNormE n := by
  unfold ofNormC ofNormK ofNormE rowW rowX
  rw [rowYE_eq]
theorem ofNorm_two : (ofNormC 2).map Qt.toQ = [⟨1, 1, 0, 0, 1⟩] := by rw [ofNormE_eq]; decide +kernel
end Go.Proofs.Ythajaabgcbjfkaa
