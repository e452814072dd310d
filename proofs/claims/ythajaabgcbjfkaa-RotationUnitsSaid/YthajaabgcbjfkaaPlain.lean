/- Plain lemmas on wrapped integers and quaternions; no program in sight. -/
import Derived.WalkKit
namespace Go.Proofs.Ythajaabgcbjfkaa
open Go.RowKit

theorem wr_wr (x : Int) : wrap64 (wrap64 x) = wrap64 x := by unfold wrap64; omega
theorem wr_add_l (x y : Int) : wrap64 (wrap64 x + y) = wrap64 (x + y) := by unfold wrap64; omega
theorem wr_add_r (x y : Int) : wrap64 (x + wrap64 y) = wrap64 (x + y) := by unfold wrap64; omega
theorem wr_sub_l (x y : Int) : wrap64 (wrap64 x - y) = wrap64 (x - y) := by unfold wrap64; omega
theorem wr_sub_r (x y : Int) : wrap64 (x - wrap64 y) = wrap64 (x - y) := by unfold wrap64; omega
theorem wr_neg (x : Int) : wrap64 (-wrap64 x) = wrap64 (-x) := by unfold wrap64; omega
theorem wr_eq (x : Int) : ∃ k, wrap64 x = x + 18446744073709551616 * k := ⟨-((x + 9223372036854775808) / 18446744073709551616), by unfold wrap64; omega⟩
theorem wr_shift (x k : Int) : wrap64 (x + 18446744073709551616 * k) = wrap64 x := by unfold wrap64; omega
theorem wr_mul_l (x y : Int) : wrap64 (wrap64 x * y) = wrap64 (x * y) := by
  obtain ⟨k, hk⟩ := wr_eq x
  rw [hk, Int.add_mul, Int.mul_assoc, wr_shift]
theorem wr_mul_r (x y : Int) : wrap64 (x * wrap64 y) = wrap64 (x * y) := by
  rw [Int.mul_comm, wr_mul_l, Int.mul_comm]
theorem wr_in (n : Int) (h : -9223372036854775808 ≤ n ∧ n ≤ 9223372036854775807) : wrap64 n = n := IntWalk.wrap64_in n h

/-- Four integers. -/
structure Qt where
  w : Int
  x : Int
  y : Int
  z : Int

namespace Qt
def mul (a b : Qt) : Qt := ⟨a.w * b.w - a.x * b.x - a.y * b.y - a.z * b.z, a.w * b.x + a.x * b.w + a.y * b.z - a.z * b.y, a.w * b.y + a.y * b.w + a.z * b.x - a.x * b.z, a.w * b.z + a.z * b.w + a.x * b.y - a.y * b.x⟩
def conj (a : Qt) : Qt := ⟨a.w, -a.x, -a.y, -a.z⟩
def nrm (a : Qt) : Int := a.w * a.w + a.x * a.x + a.y * a.y + a.z * a.z
def sub (a b : Qt) : Qt := ⟨a.w - b.w, a.x - b.x, a.y - b.y, a.z - b.z⟩
def over (a : Qt) (n : Int) : Qt := ⟨a.w.tdiv n, a.x.tdiv n, a.y.tdiv n, a.z.tdiv n⟩
def wr (a : Qt) : Qt := ⟨wrap64 a.w, wrap64 a.x, wrap64 a.y, wrap64 a.z⟩
def eqb (a b : Qt) : Bool := decide (a.w = b.w ∧ a.x = b.x ∧ a.y = b.y ∧ a.z = b.z)
theorem ext' {a b : Qt} (h1 : a.w = b.w) (h2 : a.x = b.x) (h3 : a.y = b.y) (h4 : a.z = b.z) : a = b := by
  cases a; cases b; simp_all
def InR (q : Qt) : Prop := (-4000000000000000000 ≤ q.w ∧ q.w ≤ 4000000000000000000) ∧ (-4000000000000000000 ≤ q.x ∧ q.x ≤ 4000000000000000000) ∧ (-4000000000000000000 ≤ q.y ∧ q.y ≤ 4000000000000000000) ∧ (-4000000000000000000 ≤ q.z ∧ q.z ≤ 4000000000000000000)
theorem wr_InR {q : Qt} (h : q.InR) : q.wr = q := by
  obtain ⟨h0, h1, h2, h3⟩ := h
  exact ext' (wr_in _ (by omega)) (wr_in _ (by omega)) (wr_in _ (by omega)) (wr_in _ (by omega))
theorem tdiv_bd (x n B : Int) (hB : 0 ≤ B) (hn : 1 ≤ n) (h : -B ≤ x ∧ x ≤ B) : -B ≤ x.tdiv n ∧ x.tdiv n ≤ B := by
  rcases Int.le_total 0 x with h0 | h0
  · rw [Int.tdiv_eq_ediv_of_nonneg h0]
    have := IntWalk.tdiv_le x n h0 hn
    omega
  · have e : x.tdiv n = -((-x).tdiv n) := by rw [Int.neg_tdiv, Int.neg_neg]
    rw [e, Int.tdiv_eq_ediv_of_nonneg (by omega)]
    have := IntWalk.tdiv_le (-x) n (by omega) hn
    omega
theorem over_InR {q : Qt} (h : q.InR) {n : Int} (hn : 1 ≤ n) : (q.over n).InR := by
  obtain ⟨h0, h1, h2, h3⟩ := h
  exact ⟨tdiv_bd _ _ _ (by omega) hn h0, tdiv_bd _ _ _ (by omega) hn h1, tdiv_bd _ _ _ (by omega) hn h2, tdiv_bd _ _ _ (by omega) hn h3⟩
theorem sq_nonneg (x : Int) : 0 ≤ x * x := by
  rcases Int.le_total 0 x with h | h
  · exact Int.mul_nonneg h h
  · have := Int.mul_nonneg (Int.neg_nonneg_of_nonpos h) (Int.neg_nonneg_of_nonpos h)
    rwa [Int.neg_mul_neg] at this
theorem nrm_nonneg (a : Qt) : 0 ≤ a.nrm := by
  unfold nrm
  have := sq_nonneg a.w; have := sq_nonneg a.x; have := sq_nonneg a.y; have := sq_nonneg a.z
  omega
theorem eqb_iff {a b : Qt} : a.eqb b = true ↔ a = b := by
  cases a; cases b; simp [eqb]
end Qt

theorem floor_key (a b : Int) (hb : 1 ≤ b) : (0 ≤ a.tmod b → a.tdiv b = a / b) ∧ (a.tmod b < 0 → a.tdiv b - 1 = a / b) := by
  rcases Int.le_total 0 a with h | h
  · rw [Int.tdiv_eq_ediv_of_nonneg h, Int.tmod_eq_emod_of_nonneg h]
    have := Int.emod_nonneg a (show b ≠ 0 by omega)
    exact ⟨fun _ => rfl, fun hh => by omega⟩
  · have e1 : a.tdiv b = -((-a) / b) := by
      have : a.tdiv b = -((-a).tdiv b) := by rw [Int.neg_tdiv, Int.neg_neg]
      rw [this, Int.tdiv_eq_ediv_of_nonneg (by omega)]
    have e2 : a.tmod b = -((-a) % b) := by
      have : a.tmod b = -((-a).tmod b) := by rw [Int.neg_tmod, Int.neg_neg]
      rw [this, Int.tmod_eq_emod_of_nonneg (by omega)]
    have hm := Int.emod_nonneg (-a) (show b ≠ 0 by omega)
    have hm2 := Int.emod_lt_of_pos (-a) (show 0 < b by omega)
    have hd := Int.mul_ediv_add_emod (-a) b
    rw [e1, e2]
    generalize hq : (-a) / b = q at *
    generalize hr : (-a) % b = r at *
    constructor
    · intro hh
      have hr0 : r = 0 := by omega
      have : a = b * (-q) := by rw [Int.mul_neg]; omega
      rw [this, Int.mul_ediv_cancel_left _ (by omega)]
    · intro hh
      have : a = (b - r) + b * (-q - 1) := by rw [Int.mul_sub, Int.mul_neg]; omega
      rw [this, Int.add_mul_ediv_left _ _ (by omega), Int.ediv_eq_zero_of_lt (by omega) (by omega)]
      omega

/-- Five integers: an element. -/
structure Qd where
  w : Int
  x : Int
  y : Int
  z : Int
  d : Int
def Qd.num (q : Qd) : Qt := ⟨q.w, q.x, q.y, q.z⟩
def Qt.toQ (h : Qt) : Qd := if h.w % 2 = 0 then ⟨h.w.tdiv 2, h.x.tdiv 2, h.y.tdiv 2, h.z.tdiv 2, 1⟩ else ⟨h.w, h.x, h.y, h.z, 2⟩
/-- algebra.CheckQuat: 0, or ErrForm (3). -/
def Qd.okb (q : Qd) : Bool := decide ((-1000000 ≤ q.w ∧ q.w ≤ 1000000) ∧ (-1000000 ≤ q.x ∧ q.x ≤ 1000000) ∧ (-1000000 ≤ q.y ∧ q.y ≤ 1000000) ∧ (-1000000 ≤ q.z ∧ q.z ≤ 1000000) ∧ 1 ≤ q.d ∧ q.d ≤ 1000000)
def Qd.rdv (q : Qd) : Qt := ⟨(2 * q.w).tdiv q.d, (2 * q.x).tdiv q.d, (2 * q.y).tdiv q.d, (2 * q.z).tdiv q.d⟩
def Qd.rdok (q : Qd) : Bool := (!((2 * q.w).tmod q.d != 0)) && ((!((2 * q.x).tmod q.d != 0)) && ((!((2 * q.y).tmod q.d != 0)) && ((!((2 * q.z).tmod q.d != 0)) &&
  ((!(((2 * q.x).tdiv q.d - (2 * q.w).tdiv q.d).tmod 2 != 0)) && ((!(((2 * q.y).tdiv q.d - (2 * q.w).tdiv q.d).tmod 2 != 0)) && (!(((2 * q.z).tdiv q.d - (2 * q.w).tdiv q.d).tmod 2 != 0)))))))
def Qd.err (q : Qd) : Int := if q.okb then 0 else 3
theorem tmod2 (x : Int) : x.tmod 2 = 0 ↔ x % 2 = 0 := by
  rw [← Int.dvd_iff_tmod_eq_zero, Int.dvd_iff_emod_eq_zero]
def Qd.eqb (a b : Qd) : Bool := decide (a.w = b.w ∧ a.x = b.x ∧ a.y = b.y ∧ a.z = b.z ∧ a.d = b.d)
theorem Qd.eqb_iff {a b : Qd} : a.eqb b = true ↔ a = b := by
  cases a; cases b; simp [Qd.eqb]

theorem bcell {W w1 : World} {B : Nat} (hb : Below B W w1) : (∀ b o, b < B → w1.cell? ⟨b, o, none⟩ = W.cell? ⟨b, o, none⟩) ∧ (∀ b o, b < B → w1.frozen? ⟨b, o, none⟩ = W.frozen? ⟨b, o, none⟩) :=
  ⟨fun b o h => hb.cell (p := ⟨b, o, none⟩) h, fun b o h => hb.frozen (p := ⟨b, o, none⟩) h⟩

end Go.Proofs.Ythajaabgcbjfkaa
