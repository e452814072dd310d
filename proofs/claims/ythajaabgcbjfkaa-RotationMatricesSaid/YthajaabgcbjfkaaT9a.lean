/- Contracts: CheckRotation, Compose of both sides. -/
import Derived.Test.YthajaabgcbjfkaaT3
import Derived.Test.YthajaabgcbjfkaaT7
namespace Go.Proofs.Ythajaabgcbjfkaa
open Go.RowKit

theorem crot_any (x : Rt) (w : World) :
    Calls Try.prog 49 #[.agg #[.int .i64 x.a, .int .i64 x.b, .int .i64 x.c, .int .i64 x.d, .int .i64 x.e, .int .i64 x.f, .int .i64 x.g, .int .i64 x.h, .int .i64 x.i, .int .i64 x.n]] w fun e w' => e = .returned (.int .i64 x.err) ∧ Below w.heap.size w w' := by
  by_cases h : x.Rng
  · have e : x.err = if x.Frm then 0 else 3 := by unfold Rt.err; rw [if_pos h]
    rw [e]; exact crot_in x h w
  · have e : x.err = 2 := by unfold Rt.err; rw [if_neg h]
    rw [e]; exact crot_range x h w
theorem Rt.err_zero {x : Rt} (h : x.err = 0) : x.Rng ∧ x.Frm := by
  unfold Rt.err at h
  split at h
  · split at h
    · exact ⟨‹_›, ‹_›⟩
    · exact absurd h (by decide)
  · exact absurd h (by decide)
/-- Two growths are one. -/
def mrg (g h : Nat × Array Obj) : Nat × Array Obj := (h.1, g.2 ++ h.2)
theorem more_more (W : World) (g h : Nat × Array Obj) : more (more W g) h = more W (mrg g h) := by simp [more, mrg, Array.append_assoc]
theorem mul_bd2 {n m u v : Int} (hn : 0 ≤ n ∧ n ≤ 1000000) (hm : 0 ≤ m ∧ m ≤ 1000000) (hu : -n ≤ u ∧ u ≤ n) (hv : -m ≤ v ∧ v ≤ m) : -1000000000000 ≤ u * v ∧ u * v ≤ 1000000000000 :=
  mul_bd (n := 1000000) (by omega) (by omega) (by omega)
theorem Rt.comp_In {x y : Rt} (hx : x.Rng) (hy : y.Rng) : (Rt.comp x y).In := by
  obtain ⟨⟨n0, n1⟩, xa, xb, xc, xd, xe, xf, xg, xh, xi⟩ := hx
  obtain ⟨⟨m0, m1⟩, ya, yb, yc, yd, ye, yf, yg, yh, yi⟩ := hy
  have hn : 0 ≤ x.n ∧ x.n ≤ 1000000 := ⟨by omega, n1⟩
  have hm : 0 ≤ y.n ∧ y.n ≤ 1000000 := ⟨by omega, m1⟩
  have s00 : ∀ p, p = x.a * y.a + x.b * y.d + x.c * y.g → -4000000000000000000 ≤ p ∧ p ≤ 4000000000000000000 := fun p hp => by
    have := mul_bd2 hn hm xa ya
    have := mul_bd2 hn hm xb yd
    have := mul_bd2 hn hm xc yg
    omega
  have s01 : ∀ p, p = x.a * y.b + x.b * y.e + x.c * y.h → -4000000000000000000 ≤ p ∧ p ≤ 4000000000000000000 := fun p hp => by
    have := mul_bd2 hn hm xa yb
    have := mul_bd2 hn hm xb ye
    have := mul_bd2 hn hm xc yh
    omega
  have s02 : ∀ p, p = x.a * y.c + x.b * y.f + x.c * y.i → -4000000000000000000 ≤ p ∧ p ≤ 4000000000000000000 := fun p hp => by
    have := mul_bd2 hn hm xa yc
    have := mul_bd2 hn hm xb yf
    have := mul_bd2 hn hm xc yi
    omega
  have s10 : ∀ p, p = x.d * y.a + x.e * y.d + x.f * y.g → -4000000000000000000 ≤ p ∧ p ≤ 4000000000000000000 := fun p hp => by
    have := mul_bd2 hn hm xd ya
    have := mul_bd2 hn hm xe yd
    have := mul_bd2 hn hm xf yg
    omega
  have s11 : ∀ p, p = x.d * y.b + x.e * y.e + x.f * y.h → -4000000000000000000 ≤ p ∧ p ≤ 4000000000000000000 := fun p hp => by
    have := mul_bd2 hn hm xd yb
    have := mul_bd2 hn hm xe ye
    have := mul_bd2 hn hm xf yh
    omega
  have s12 : ∀ p, p = x.d * y.c + x.e * y.f + x.f * y.i → -4000000000000000000 ≤ p ∧ p ≤ 4000000000000000000 := fun p hp => by
    have := mul_bd2 hn hm xd yc
    have := mul_bd2 hn hm xe yf
    have := mul_bd2 hn hm xf yi
    omega
  have s20 : ∀ p, p = x.g * y.a + x.h * y.d + x.i * y.g → -4000000000000000000 ≤ p ∧ p ≤ 4000000000000000000 := fun p hp => by
    have := mul_bd2 hn hm xg ya
    have := mul_bd2 hn hm xh yd
    have := mul_bd2 hn hm xi yg
    omega
  have s21 : ∀ p, p = x.g * y.b + x.h * y.e + x.i * y.h → -4000000000000000000 ≤ p ∧ p ≤ 4000000000000000000 := fun p hp => by
    have := mul_bd2 hn hm xg yb
    have := mul_bd2 hn hm xh ye
    have := mul_bd2 hn hm xi yh
    omega
  have s22 : ∀ p, p = x.g * y.c + x.h * y.f + x.i * y.i → -4000000000000000000 ≤ p ∧ p ≤ 4000000000000000000 := fun p hp => by
    have := mul_bd2 hn hm xg yc
    have := mul_bd2 hn hm xh yf
    have := mul_bd2 hn hm xi yi
    omega
  have hnn := mul_bd2 hn hm ⟨by omega, Int.le_refl _⟩ ⟨by omega, Int.le_refl _⟩
  have hnp := Int.mul_pos (show 0 < x.n by omega) (show 0 < y.n by omega)
  exact ⟨s00 _ rfl, s01 _ rfl, s02 _ rfl, s10 _ rfl, s11 _ rfl, s12 _ rfl, s20 _ rfl, s21 _ rfl, s22 _ rfl, ⟨by show 1 ≤ x.n * y.n; omega, by show x.n * y.n ≤ 4000000000000000000; omega⟩⟩

end Go.Proofs.Ythajaabgcbjfkaa
