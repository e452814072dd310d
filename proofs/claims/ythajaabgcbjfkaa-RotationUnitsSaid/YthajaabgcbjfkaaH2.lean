/- Plain: Hurwitz quaternions, by their doubled coordinates. -/
import Derived.Test.YthajaabgcbjfkaaH1
namespace Go.Proofs.Ythajaabgcbjfkaa
open Go.RowKit
namespace Qt

/-- Twice a Hurwitz quaternion: all even, or all odd. -/
def Hz (q : Qt) : Prop := ∃ a b c d p : Int, q = ⟨2 * a + p, 2 * b + p, 2 * c + p, 2 * d + p⟩
theorem hz_iff (q : Qt) : Hz q ↔ (q.x - q.w) % 2 = 0 ∧ (q.y - q.w) % 2 = 0 ∧ (q.z - q.w) % 2 = 0 := by
  constructor
  · rintro ⟨a, b, c, d, p, rfl⟩
    refine ⟨?_, ?_, ?_⟩ <;> (simp only; omega)
  · rintro ⟨h1, h2, h3⟩
    refine ⟨0, (q.x - q.w) / 2, (q.y - q.w) / 2, (q.z - q.w) / 2, q.w, ?_⟩
    apply ext' <;> (simp only; omega)
/-- Twice. -/
def dbl (q : Qt) : Qt := ⟨2 * q.w, 2 * q.x, 2 * q.y, 2 * q.z⟩
theorem over_dbl (q : Qt) : (dbl q).over 2 = q := by
  apply ext' <;> simp only [over, dbl] <;> exact Int.mul_tdiv_cancel_left _ (by omega)
theorem hz_mul {a b : Qt} (ha : Hz a) (hb : Hz b) : ∃ q, Hz q ∧ a.mul b = dbl q := by
  obtain ⟨a0, a1, a2, a3, p, rfl⟩ := ha
  obtain ⟨b0, b1, b2, b3, r, rfl⟩ := hb
  refine ⟨⟨2 * (a0 * b0 - a1 * b1 - a2 * b2 - a3 * b3) + r * (a0 - a1 - a2 - a3) + p * (b0 - b1 - b2 - b3) - p * r,
    2 * (a0 * b1 + a1 * b0 + a2 * b3 - a3 * b2) + r * (a0 + a1 + a2 - a3) + p * (b1 + b0 + b3 - b2) + p * r,
    2 * (a0 * b2 + a2 * b0 + a3 * b1 - a1 * b3) + r * (a0 + a2 + a3 - a1) + p * (b2 + b0 + b1 - b3) + p * r,
    2 * (a0 * b3 + a3 * b0 + a1 * b2 - a2 * b1) + r * (a0 + a3 + a1 - a2) + p * (b3 + b0 + b2 - b1) + p * r⟩, ?_, ?_⟩
  · refine ⟨(a0 * b0 - a1 * b1 - a2 * b2 - a3 * b3) - p * r, (a0 * b1 + a1 * b0 + a2 * b3 - a3 * b2) + r * (a1 + a2) + p * (b1 + b3), (a0 * b2 + a2 * b0 + a3 * b1 - a1 * b3) + r * (a2 + a3) + p * (b2 + b1), (a0 * b3 + a3 * b0 + a1 * b2 - a2 * b1) + r * (a3 + a1) + p * (b3 + b2), r * (a0 - a1 - a2 - a3) + p * (b0 - b1 - b2 - b3) + p * r, ?_⟩
    apply ext' <;> (simp only; grind)
  · apply ext' <;> (simp only [mul, dbl]; grind)
theorem hz_nrm {a : Qt} (ha : Hz a) : a.nrm % 4 = 0 := by
  obtain ⟨a0, a1, a2, a3, p, rfl⟩ := ha
  have : nrm ⟨2 * a0 + p, 2 * a1 + p, 2 * a2 + p, 2 * a3 + p⟩ = 4 * (a0 * a0 + a1 * a1 + a2 * a2 + a3 * a3 + p * (a0 + a1 + a2 + a3) + p * p) := by
    simp only [nrm]; grind
  omega
theorem hz_conj {a : Qt} (ha : Hz a) : Hz a.conj := by
  rw [hz_iff] at *
  simp only [conj]
  omega
theorem hz_sub {a b : Qt} (ha : Hz a) (hb : Hz b) : Hz (a.sub b) := by
  rw [hz_iff] at *
  simp only [sub]
  omega
/-- The product of two Hurwitz quaternions (doubled). -/
def hm (a b : Qt) : Qt := (a.mul b).over 2
theorem hm_spec {a b : Qt} (ha : Hz a) (hb : Hz b) : Hz (hm a b) ∧ a.mul b = dbl (hm a b) := by
  obtain ⟨q, hq, he⟩ := hz_mul ha hb
  have : hm a b = q := by unfold hm; rw [he, over_dbl]
  rw [this]
  exact ⟨hq, he⟩
theorem nrm_dbl (a : Qt) : (dbl a).nrm = 4 * a.nrm := by simp only [nrm, dbl]; grind
theorem hm_nrm {a b : Qt} (ha : Hz a) (hb : Hz b) : 4 * (hm a b).nrm = a.nrm * b.nrm := by
  rw [← nrm_dbl, ← (hm_spec ha hb).2, nrm_mul]
theorem hz_qa (x y : Qt) : Hz (x.qa y) := by
  rw [hz_iff]; simp only [qa]; omega
theorem hz_qb (x y : Qt) : Hz (x.qb y) := by
  rw [hz_iff]; simp only [qb]; omega
theorem hz_rm {x y q : Qt} (hx : Hz x) (hy : Hz y) (hq : Hz q) : Hz (x.rm y q) := hz_sub hx (hm_spec hy hq).1

/-- conj y (2 x - y q) = 2 conj(y) x - |y| q. -/
theorem rem_id (x y q : Qt) : y.conj.mul ((dbl x).sub (y.mul q)) = ((dbl (y.conj.mul x)).sub ⟨y.nrm * q.w, y.nrm * q.x, y.nrm * q.y, y.nrm * q.z⟩) := by
  apply ext' <;> (simp only [mul, conj, dbl, sub, nrm]; grind)
end Qt
end Go.Proofs.Ythajaabgcbjfkaa
