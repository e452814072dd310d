/- Plain: what is asked of a rotation. -/
import Derived.Test.YthajaabgcbjfkaaDoorA1
import Derived.Test.YthajaabgcbjfkaaDoorEqs
namespace Go.Proofs.YthajaabgcbjfkaaDoor
open Go.RowKit

namespace Rt
/-- The numbers of a rotation are of the sizes that are asked. -/
def Rng (x : Rt) : Prop := (1 ≤ x.n ∧ x.n ≤ 1000000) ∧ (-x.n ≤ x.a ∧ x.a ≤ x.n) ∧ (-x.n ≤ x.b ∧ x.b ≤ x.n) ∧ (-x.n ≤ x.c ∧ x.c ≤ x.n) ∧ (-x.n ≤ x.d ∧ x.d ≤ x.n) ∧ (-x.n ≤ x.e ∧ x.e ≤ x.n) ∧ (-x.n ≤ x.f ∧ x.f ≤ x.n) ∧ (-x.n ≤ x.g ∧ x.g ≤ x.n) ∧ (-x.n ≤ x.h ∧ x.h ≤ x.n) ∧ (-x.n ≤ x.i ∧ x.i ≤ x.n)
/-- What the program asks of a rotation, beside the sizes. -/
def Frm (x : Rt) : Prop := (x.a * x.a + x.b * x.b + x.c * x.c = x.n * x.n ∧ x.d * x.d + x.e * x.e + x.f * x.f = x.n * x.n ∧ x.g * x.g + x.h * x.h + x.i * x.i = x.n * x.n) ∧ (x.a * x.d + x.b * x.e + x.c * x.f = 0 ∧ x.a * x.g + x.b * x.h + x.c * x.i = 0 ∧ x.d * x.g + x.e * x.h + x.f * x.i = 0) ∧ (x.b * x.f - x.c * x.e = x.g * x.n ∧ x.c * x.d - x.a * x.f = x.h * x.n ∧ x.a * x.e - x.b * x.d = x.i * x.n)
instance (x : Rt) : Decidable x.Rng := by unfold Rng; infer_instance
instance (x : Rt) : Decidable x.Frm := by unfold Frm; infer_instance
def err (x : Rt) : Int := if x.Rng then (if x.Frm then 0 else 3) else 2
end Rt
theorem mul_bd {n u v : Int} (hn : 0 ≤ n ∧ n ≤ 1000000) (hu : -n ≤ u ∧ u ≤ n) (hv : -n ≤ v ∧ v ≤ n) : -1000000000000 ≤ u * v ∧ u * v ≤ 1000000000000 := by
  have h1 : 0 ≤ (n - u) * (n + v) := Int.mul_nonneg (by omega) (by omega)
  have h2 : 0 ≤ (n + u) * (n - v) := Int.mul_nonneg (by omega) (by omega)
  have h3 : 0 ≤ (n - u) * (n - v) := Int.mul_nonneg (by omega) (by omega)
  have h4 : 0 ≤ (n + u) * (n + v) := Int.mul_nonneg (by omega) (by omega)
  have h5 : 0 ≤ (1000000 - n) * (1000000 + n) := Int.mul_nonneg (by omega) (by omega)
  rw [Int.sub_mul, Int.mul_add, Int.mul_add] at h1
  rw [Int.add_mul, Int.mul_sub, Int.mul_sub] at h2
  rw [Int.sub_mul, Int.mul_sub, Int.mul_sub] at h3
  rw [Int.add_mul, Int.mul_add, Int.mul_add] at h4
  rw [Int.sub_mul, Int.mul_add, Int.mul_add] at h5
  have e1 := Int.mul_comm u n
  have e2 := Int.mul_comm 1000000 n
  omega

end Go.Proofs.YthajaabgcbjfkaaDoor
