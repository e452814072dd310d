/- Plain: the reference's Quat and Divide are the program's. -/
import Derived.Test.YthajaabgcbjfkaaP1
import Derived.Test.YthajaabgcbjfkaaH3
namespace Go.Proofs.Ythajaabgcbjfkaa
open Go.RowKit
namespace Qt

theorem low_two {a b c d : Int} : (Qd.low ⟨a, b, c, d, 2⟩).d = 1 ∨ (Qd.low ⟨a, b, c, d, 2⟩).d = 2 := by
  have h := Qd.low_eq ⟨a, b, c, d, 2⟩
  have h5 : (2 : Int) = (Qd.lg ⟨a, b, c, d, 2⟩) * (Qd.low ⟨a, b, c, d, 2⟩).d := h.2.2.2.2
  exact dvd_two (Qd.low_d_pos (q := ⟨a, b, c, d, 2⟩) (by simp only; omega)) ⟨_, by rw [Int.mul_comm]; exact h5⟩
/-- The element of a Hurwitz quaternion, in lowest terms. -/
theorem toQ_low {h : Qt} (hh : Hz h) : Qd.low ⟨h.w, h.x, h.y, h.z, 2⟩ = h.toQ := by
  obtain ⟨e1, e2, e3, e4, e5⟩ := Qd.low_eq ⟨h.w, h.x, h.y, h.z, 2⟩
  have cop := fun c => Qd.low_cop (q := ⟨h.w, h.x, h.y, h.z, 2⟩) (by simp only; omega) (c := c)
  rw [hz_iff] at hh
  obtain ⟨p1, p2, p3⟩ := hh
  have hd := low_two (a := h.w) (b := h.x) (c := h.y) (d := h.z)
  generalize hl : Qd.low ⟨h.w, h.x, h.y, h.z, 2⟩ = l at *
  generalize hg : Qd.lg ⟨h.w, h.x, h.y, h.z, 2⟩ = g at *
  simp only at e1 e2 e3 e4 e5
  unfold toQ
  rcases hd with hd | hd
  · rw [hd, Int.mul_one] at e5
    subst e5
    rw [if_pos (by omega)]
    have t : ∀ u v : Int, u = 2 * v → u.tdiv 2 = v := fun u v huv => by rw [huv]; exact Int.mul_tdiv_cancel_left _ (by omega)
    rw [t _ _ e1, t _ _ e2, t _ _ e3, t _ _ e4]
    cases l; simp only at hd; subst hd; rfl
  · rw [hd] at e5
    have : g = 1 := by omega
    subst this
    have hne : ¬ h.w % 2 = 0 := fun hw => by
      have := cop 2 (by omega) (by omega) (by omega) (by omega) (by omega) (by omega)
      omega
    rw [if_neg hne]
    cases l
    simp only [Int.one_mul] at *
    subst hd; subst e1; subst e2; subst e3; subst e4; rfl

/-- The candidates, as the reference reckons them: t is the product's half. -/
theorem quo_ref (t n : Int) (_hn : 1 ≤ n) : (2 * (2 * t) + 4 * n) / (2 * (4 * n)) = (t + n) / (2 * n) ∧ (2 * t) / (4 * n) = t / (2 * n) := by
  constructor
  · rw [show 2 * (2 * t) + 4 * n = 4 * (t + n) by omega, show 2 * (4 * n) = 4 * (2 * n) by omega]
    exact Int.mul_ediv_mul_of_pos _ _ (by omega)
  · rw [show 4 * n = 2 * (2 * n) by omega]
    exact Int.mul_ediv_mul_of_pos _ _ (by omega)
def qaR (t : Qt) (n : Int) : Qt := ⟨2 * ((t.w + n) / (2 * n)), 2 * ((t.x + n) / (2 * n)), 2 * ((t.y + n) / (2 * n)), 2 * ((t.z + n) / (2 * n))⟩
def qbR (t : Qt) (n : Int) : Qt := ⟨2 * (t.w / (2 * n)) + 1, 2 * (t.x / (2 * n)) + 1, 2 * (t.y / (2 * n)) + 1, 2 * (t.z / (2 * n)) + 1⟩
theorem qaR_eq {x y : Qt} (hx : Hz x) (hy : Hz y) (h0 : 1 ≤ y.nrm) : qaR (hm y.conj x) (y.nrm / 4) = x.qa y ∧ qbR (hm y.conj x) (y.nrm / 4) = x.qb y := by
  have h4 := hz_nrm hy
  have hn : 1 ≤ y.nrm / 4 := by omega
  have hp := (hm_spec (hz_conj hy) hx).2
  have w := congrArg Qt.w hp; have x' := congrArg Qt.x hp; have y' := congrArg Qt.y hp; have z := congrArg Qt.z hp
  simp only [dbl] at w x' y' z
  constructor
  · unfold qaR qa
    rw [w, x', y', z, (quo_ref _ _ hn).1, (quo_ref _ _ hn).1, (quo_ref _ _ hn).1, (quo_ref _ _ hn).1]
  · unfold qbR qb
    rw [w, x', y', z, (quo_ref _ _ hn).2, (quo_ref _ _ hn).2, (quo_ref _ _ hn).2, (quo_ref _ _ hn).2]
/-- What is divided is put together again. -/
theorem dr_back {x y : Qt} (_hx : Hz x) (_hy : Hz y) : (⟨0, 0, 0, 0⟩ : Qt).sub (((⟨0, 0, 0, 0⟩ : Qt).sub (hm y (x.quo y))).sub (x.dr y)) = x := by
  unfold dr rm
  rw [show (y.mul (x.quo y)).over 2 = hm y (x.quo y) from rfl]
  apply ext' <;> (simp only [sub]; omega)
end Qt
end Go.Proofs.Ythajaabgcbjfkaa
