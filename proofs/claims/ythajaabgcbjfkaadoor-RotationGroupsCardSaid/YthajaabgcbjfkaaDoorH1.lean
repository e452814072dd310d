/- Plain: norms of quaternions, division. Plain: Hurwitz quaternions, by their doubled coordinates. -/
import Derived.Test.YthajaabgcbjfkaaDoorBase
namespace Go.Proofs.YthajaabgcbjfkaaDoor
open Go.RowKit
namespace Qt

theorem nrm_mul (a b : Qt) : (a.mul b).nrm = a.nrm * b.nrm := by
  obtain ⟨aw, ax, ay, az⟩ := a
  obtain ⟨bw, bx, bY, bz⟩ := b
  simp only [mul, nrm]
  grind
theorem nrm_conj (a : Qt) : a.conj.nrm = a.nrm := by simp only [nrm, conj, Int.neg_mul_neg]
theorem sq_le_nrm (a : Qt) : a.w * a.w ≤ a.nrm ∧ a.x * a.x ≤ a.nrm ∧ a.y * a.y ≤ a.nrm ∧ a.z * a.z ≤ a.nrm := by
  have := sq_nonneg a.w; have := sq_nonneg a.x; have := sq_nonneg a.y; have := sq_nonneg a.z
  unfold nrm; omega
theorem abs_of_sq (x B : Int) (hB : 0 ≤ B) (h : x * x ≤ B * B) : -B ≤ x ∧ x ≤ B := by
  constructor
  · apply Int.not_lt.1
    intro hx
    have : B * B < x * x := by
      have h1 : B * B ≤ B * (-x) := Int.mul_le_mul_of_nonneg_left (by omega) hB
      have h2 : B * (-x) < (-x) * (-x) := Int.mul_lt_mul_of_pos_right (by omega) (by omega)
      rw [Int.neg_mul_neg] at h2
      omega
    omega
  · apply Int.not_lt.1
    intro hx
    have : B * B < x * x := by
      have h1 : B * B ≤ B * x := Int.mul_le_mul_of_nonneg_left (by omega) hB
      have h2 : B * x < x * x := Int.mul_lt_mul_of_pos_right (by omega) (by omega)
      omega
    omega
/-- Each coordinate is at most B if the norm is at most B * B. -/
theorem bd_of_nrm {a : Qt} {B : Int} (hB : 0 ≤ B) (h : a.nrm ≤ B * B) : (-B ≤ a.w ∧ a.w ≤ B) ∧ (-B ≤ a.x ∧ a.x ≤ B) ∧ (-B ≤ a.y ∧ a.y ≤ B) ∧ (-B ≤ a.z ∧ a.z ≤ B) := by
  obtain ⟨h1, h2, h3, h4⟩ := sq_le_nrm a
  exact ⟨abs_of_sq _ _ hB (by omega), abs_of_sq _ _ hB (by omega), abs_of_sq _ _ hB (by omega), abs_of_sq _ _ hB (by omega)⟩
theorem inR_of_nrm {a : Qt} (h : a.nrm ≤ 16000000000000000000000000000000000000) : a.InR := by
  obtain ⟨h1, h2, h3, h4⟩ := bd_of_nrm (a := a) (B := 4000000000000000000) (by omega) (by omega)
  exact ⟨by omega, by omega, by omega, by omega⟩

/-- The two candidates of a division (doubled coordinates). -/
def qa (x y : Qt) : Qt := ⟨2 * ((2 * (y.conj.mul x).w + 4 * (y.nrm / 4)) / (2 * (4 * (y.nrm / 4)))), 2 * ((2 * (y.conj.mul x).x + 4 * (y.nrm / 4)) / (2 * (4 * (y.nrm / 4)))), 2 * ((2 * (y.conj.mul x).y + 4 * (y.nrm / 4)) / (2 * (4 * (y.nrm / 4)))), 2 * ((2 * (y.conj.mul x).z + 4 * (y.nrm / 4)) / (2 * (4 * (y.nrm / 4))))⟩
def qb (x y : Qt) : Qt := ⟨2 * ((y.conj.mul x).w / (4 * (y.nrm / 4))) + 1, 2 * ((y.conj.mul x).x / (4 * (y.nrm / 4))) + 1, 2 * ((y.conj.mul x).y / (4 * (y.nrm / 4))) + 1, 2 * ((y.conj.mul x).z / (4 * (y.nrm / 4))) + 1⟩
def rm (x y q : Qt) : Qt := x.sub ((y.mul q).over 2)
def pickb (x y : Qt) : Bool := decide ((x.rm y (x.qb y)).nrm / 4 < (x.rm y (x.qa y)).nrm / 4)
def quo (x y : Qt) : Qt := if x.pickb y then x.qb y else x.qa y
def dr (x y : Qt) : Qt := x.rm y (x.quo y)

/-- What the Go text's division needs of its arguments, and has: y's norm is a multiple of 4, not 0. -/
structure Dv (x y : Qt) : Prop where
  hx : x.nrm ≤ 4000000000000
  hy : y.nrm ≤ 4000000000000
  h0 : 1 ≤ y.nrm
  h4 : y.nrm % 4 = 0

theorem ediv_bd (a b B : Int) (hB : 0 ≤ B) (hb : 1 ≤ b) (h : -B ≤ a ∧ a ≤ B) : -B ≤ a / b ∧ a / b ≤ B := by
  constructor
  · exact (Int.le_ediv_iff_mul_le (by omega)).2 (by have : B * 1 ≤ B * b := Int.mul_le_mul_of_nonneg_left hb hB; rw [Int.neg_mul]; omega)
  · exact Int.ediv_le_of_le_mul (by omega) (by have : B * 1 ≤ B * b := Int.mul_le_mul_of_nonneg_left hb hB; omega)
/-- All four numbers are at most B in size. -/
def Bd (B : Int) (a : Qt) : Prop := (-B ≤ a.w ∧ a.w ≤ B) ∧ (-B ≤ a.x ∧ a.x ≤ B) ∧ (-B ≤ a.y ∧ a.y ≤ B) ∧ (-B ≤ a.z ∧ a.z ≤ B)
theorem qa_bd (x y : Qt) (h : Dv x y) (hT : Bd 4000000000000 (y.conj.mul x)) : Bd 40000000000000 (x.qa y) := by
  obtain ⟨hx, hy, h0, h4⟩ := h
  obtain ⟨h1, h2, h3, h5⟩ := hT
  have hn : 1 ≤ 2 * (4 * (y.nrm / 4)) := by omega
  have k1 := ediv_bd (2 * (y.conj.mul x).w + 4 * (y.nrm / 4)) _ 16000000000000 (by omega) hn (by omega)
  have k2 := ediv_bd (2 * (y.conj.mul x).x + 4 * (y.nrm / 4)) _ 16000000000000 (by omega) hn (by omega)
  have k3 := ediv_bd (2 * (y.conj.mul x).y + 4 * (y.nrm / 4)) _ 16000000000000 (by omega) hn (by omega)
  have k4 := ediv_bd (2 * (y.conj.mul x).z + 4 * (y.nrm / 4)) _ 16000000000000 (by omega) hn (by omega)
  simp only [Bd, qa]
  refine ⟨?_, ?_, ?_, ?_⟩ <;> omega
theorem qb_bd (x y : Qt) (h : Dv x y) (hT : Bd 4000000000000 (y.conj.mul x)) : Bd 40000000000000 (x.qb y) := by
  obtain ⟨hx, hy, h0, h4⟩ := h
  obtain ⟨h1, h2, h3, h5⟩ := hT
  have hn : 1 ≤ 4 * (y.nrm / 4) := by omega
  have k1 := ediv_bd (y.conj.mul x).w _ 4000000000000 (by omega) hn h1
  have k2 := ediv_bd (y.conj.mul x).x _ 4000000000000 (by omega) hn h2
  have k3 := ediv_bd (y.conj.mul x).y _ 4000000000000 (by omega) hn h3
  have k4 := ediv_bd (y.conj.mul x).z _ 4000000000000 (by omega) hn h5
  simp only [Bd, qb]
  refine ⟨?_, ?_, ?_, ?_⟩ <;> omega

end Qt
end Go.Proofs.YthajaabgcbjfkaaDoor

namespace Go.Proofs.YthajaabgcbjfkaaDoor
open Go.RowKit
namespace Qt

/-- Twice a Hurwitz quaternion: all even, or all odd. -/
def Hz (q : Qt) : Prop := ∃ a b c d p : Int, q = ⟨2 * a + p, 2 * b + p, 2 * c + p, 2 * d + p⟩
theorem hz_iff (q : Qt) : Hz q ↔ (q.x - q.w) % 2 = 0 ∧ (q.y - q.w) % 2 = 0 ∧ (q.z - q.w) % 2 = 0 := by
  constructor
  · rintro ⟨a, b, c, d, p, rfl⟩
    refine ⟨?_, ?_, ?_⟩ <;> (simp only; omega)
  · rintro ⟨h1, h2, h3⟩
    refine ⟨0, (q.x - q.w) / 2, (q.y - q.w) / 2, (q.z - q.w) / 2, q.w, ?_⟩
    apply ext' <;> (simp only; omega)
/-- Twice. -/
def dbl (q : Qt) : Qt := ⟨2 * q.w, 2 * q.x, 2 * q.y, 2 * q.z⟩
theorem over_dbl (q : Qt) : (dbl q).over 2 = q := by
  apply ext' <;> simp only [over, dbl] <;> exact Int.mul_tdiv_cancel_left _ (by omega)
theorem hz_mul {a b : Qt} (ha : Hz a) (hb : Hz b) : ∃ q, Hz q ∧ a.mul b = dbl q := by
  obtain ⟨a0, a1, a2, a3, p, rfl⟩ := ha
  obtain ⟨b0, b1, b2, b3, r, rfl⟩ := hb
  refine ⟨⟨2 * (a0 * b0 - a1 * b1 - a2 * b2 - a3 * b3) + r * (a0 - a1 - a2 - a3) + p * (b0 - b1 - b2 - b3) - p * r,
    2 * (a0 * b1 + a1 * b0 + a2 * b3 - a3 * b2) + r * (a0 + a1 + a2 - a3) + p * (b1 + b0 + b3 - b2) + p * r,
    2 * (a0 * b2 + a2 * b0 + a3 * b1 - a1 * b3) + r * (a0 + a2 + a3 - a1) + p * (b2 + b0 + b1 - b3) + p * r,
    2 * (a0 * b3 + a3 * b0 + a1 * b2 - a2 * b1) + r * (a0 + a3 + a1 - a2) + p * (b3 + b0 + b2 - b1) + p * r⟩, ?_, ?_⟩
  · refine ⟨(a0 * b0 - a1 * b1 - a2 * b2 - a3 * b3) - p * r, (a0 * b1 + a1 * b0 + a2 * b3 - a3 * b2) + r * (a1 + a2) + p * (b1 + b3), (a0 * b2 + a2 * b0 + a3 * b1 - a1 * b3) + r * (a2 + a3) + p * (b2 + b1), (a0 * b3 + a3 * b0 + a1 * b2 - a2 * b1) + r * (a3 + a1) + p * (b3 + b2), r * (a0 - a1 - a2 - a3) + p * (b0 - b1 - b2 - b3) + p * r, ?_⟩
    apply ext' <;> (simp only; grind)
  · apply ext' <;> (simp only [mul, dbl]; grind)
theorem hz_nrm {a : Qt} (ha : Hz a) : a.nrm % 4 = 0 := by
  obtain ⟨a0, a1, a2, a3, p, rfl⟩ := ha
  have : nrm ⟨2 * a0 + p, 2 * a1 + p, 2 * a2 + p, 2 * a3 + p⟩ = 4 * (a0 * a0 + a1 * a1 + a2 * a2 + a3 * a3 + p * (a0 + a1 + a2 + a3) + p * p) := by
    simp only [nrm]; grind
  omega
theorem hz_conj {a : Qt} (ha : Hz a) : Hz a.conj := by
  rw [hz_iff] at *
  simp only [conj]
  omega
theorem hz_sub {a b : Qt} (ha : Hz a) (hb : Hz b) : Hz (a.sub b) := by
  rw [hz_iff] at *
  simp only [sub]
  omega
/-- The product of two Hurwitz quaternions (doubled). -/
def hm (a b : Qt) : Qt := (a.mul b).over 2
theorem hm_spec {a b : Qt} (ha : Hz a) (hb : Hz b) : Hz (hm a b) ∧ a.mul b = dbl (hm a b) := by
  obtain ⟨q, hq, he⟩ := hz_mul ha hb
  have : hm a b = q := by unfold hm; rw [he, over_dbl]
  rw [this]
  exact ⟨hq, he⟩
theorem nrm_dbl (a : Qt) : (dbl a).nrm = 4 * a.nrm := by simp only [nrm, dbl]; grind
theorem hm_nrm {a b : Qt} (ha : Hz a) (hb : Hz b) : 4 * (hm a b).nrm = a.nrm * b.nrm := by
  rw [← nrm_dbl, ← (hm_spec ha hb).2, nrm_mul]
theorem hz_qa (x y : Qt) : Hz (x.qa y) := by
  rw [hz_iff]; simp only [qa]; omega
theorem hz_qb (x y : Qt) : Hz (x.qb y) := by
  rw [hz_iff]; simp only [qb]; omega
theorem hz_rm {x y q : Qt} (hx : Hz x) (hy : Hz y) (hq : Hz q) : Hz (x.rm y q) := hz_sub hx (hm_spec hy hq).1

/-- conj y (2 x - y q) = 2 conj(y) x - |y| q. -/
theorem rem_id (x y q : Qt) : y.conj.mul ((dbl x).sub (y.mul q)) = ((dbl (y.conj.mul x)).sub ⟨y.nrm * q.w, y.nrm * q.x, y.nrm * q.y, y.nrm * q.z⟩) := by
  apply ext' <;> (simp only [mul, conj, dbl, sub, nrm]; grind)
end Qt
end Go.Proofs.YthajaabgcbjfkaaDoor
