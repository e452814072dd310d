/- Plain: the rotations of products, multiples and of what is read off a rotation. -/
import Derived.Test.YthajaabgcbjfkaaM1
import Derived.Test.YthajaabgcbjfkaaB6
import Derived.Test.YthajaabgcbjfkaaT0
namespace Go.Proofs.Ythajaabgcbjfkaa
open Go.RowKit

theorem ne_of_eqb {a : Qt} (h : a.eqb ⟨0, 0, 0, 0⟩ = false) : a ≠ ⟨0, 0, 0, 0⟩ := fun e => by
  rw [Qt.eqb_iff.2 e] at h; exact Bool.noConfusion h
theorem eqb_of_ne {a : Qt} (h : a ≠ ⟨0, 0, 0, 0⟩) : a.eqb ⟨0, 0, 0, 0⟩ = false := by
  cases k : a.eqb ⟨0, 0, 0, 0⟩
  · rfl
  · exact absurd (Qt.eqb_iff.1 k) h
theorem nrm_pos_ne {a : Qt} (h : 1 ≤ a.nrm) : a ≠ ⟨0, 0, 0, 0⟩ := ne_of_eqb (Qt.nrm_ne h)
/-- What is read of an element is a multiple of its numbers. -/
theorem Qd.num_rdv {q : Qd} (h : q.rdok = true) : Qt.smul q.d q.rdv = Qt.smul 2 q.num := by
  obtain ⟨⟨h0, h1, h2, h3⟩, _⟩ := q.rdok_iff.1 h
  exact Qt.ext' (tdiv_dvd h0).symm (tdiv_dvd h1).symm (tdiv_dvd h2).symm (tdiv_dvd h3).symm
theorem Qd.d_pos {q : Qd} (h : q.okb = true) : 1 ≤ q.d := by
  simp only [Qd.okb, decide_eq_true_eq] at h; omega
theorem smul_ne {c : Int} (hc : c ≠ 0) {a : Qt} (h : 1 ≤ a.nrm) : 1 ≤ (Qt.smul c a).nrm := by
  rw [Qt.nrm_smul']
  have h0 : 0 < c * c := by
    rcases Int.lt_or_gt_of_ne hc with h | h
    · exact Int.mul_pos_of_neg_of_neg h h
    · exact Int.mul_pos h h
  have := Int.mul_pos h0 (show 0 < a.nrm by omega)
  omega
/-- An element that can be read, and is not 0: its rotation is that of what is read. -/
theorem Qd.rot_rdv {q : Qd} (hk : q.okb = true) (hr : q.rdok = true) (hn : 1 ≤ q.rdv.nrm) : q.serr = 0 ∧ 1 ≤ q.num.nrm ∧ q.rot = q.rdv.rot.low := by
  have hd := Qd.d_pos hk
  have he := Qd.num_rdv hr
  have h1 := smul_ne (c := q.d) (by omega) hn
  have hz : q.num.eqb ⟨0, 0, 0, 0⟩ = false := eqb_of_ne (fun e => by
    rw [he, e] at h1
    simp [Qt.nrm, Qt.smul] at h1)
  have hnn := Qt.nrm_pos hz
  have hs : q.serr = 0 := by unfold Qd.serr; rw [hk, hz]; rfl
  refine ⟨hs, hnn, ?_⟩
  rw [Qd.rot_eq hs, ← Qt.rot_low (c := 2) (by omega) hnn, ← he, Qt.rot_low (by omega) hn]
theorem Qd.rot_small {q : Qd} (hk : q.okb = true) (hr : q.rdok = true) (hh : Qt.Hz q.rdv) (hn : 1 ≤ q.rdv.nrm) : q.rot.n ≤ q.rdv.nrm / 4 := by
  rw [(Qd.rot_rdv hk hr hn).2.2]
  exact Qt.rot_hz hh hn
/-- The rotation of a product. -/
theorem rot_times {X Y : Qt} (hX : Qt.Hz X) (hY : Qt.Hz Y) (h1 : 1 ≤ X.nrm) (h2 : 1 ≤ Y.nrm) : (Rt.comp X.rot.low Y.rot.low).low = (Qt.hm X Y).rot.low := by
  rw [Rt.comp_low h1 h2, ← Qt.rot_mul, (Qt.hm_spec hX hY).2]
  have e : Qt.dbl (Qt.hm X Y) = Qt.smul 2 (Qt.hm X Y) := rfl
  rw [e]
  refine Qt.rot_low (by omega) ?_
  have hp := Int.mul_pos (show 0 < X.nrm by omega) (show 0 < Y.nrm by omega)
  have := Qt.hm_nrm hX hY
  omega
/-- The element of integers. -/
def Qt.wh (a : Qt) : Qd := ⟨a.w, a.x, a.y, a.z, 1⟩
/-- What is read off the matrix of an element has the same matrix. -/
theorem rot_back {A : Qt} (hA : 1 ≤ A.nrm) (hs : A.rot.low.n ≤ 1000) : A.rot.low.lq.red.wh.serr = 0 ∧ A.rot.low.lq.red.wh.rot = A.rot.low := by
  have hn : 1 ≤ A.rot.n := hA
  have h1 := (Rt.low_n hn).1
  have hz := Rt.lq_ne h1
  have hb := (Qt.low_orth hA).bd h1
  have hq := Qt.red_nrm hz
  have hz2 := Qt.nrm_ne hq.1
  have B : Qt.Bd 4000 A.rot.low.lq := by
    obtain ⟨ra, rb, rc, rd, re, rf, rg, rh, ri⟩ := hb
    rcases Rt.lq_row A.rot.low with e | e | e | e <;> rw [e] <;> refine ⟨?_, ?_, ?_, ?_⟩ <;> simp only [Rt.l0, Rt.l1, Rt.l2, Rt.l3] <;> omega
  have B2 : Qt.Bd 4000 A.rot.low.lq.red := by
    obtain ⟨c, hc, he⟩ := Qt.red_spec hz
    generalize A.rot.low.lq.red = r at *
    generalize A.rot.low.lq = l at *
    have t : ∀ u v : Int, u = c * v → (-4000 ≤ u ∧ u ≤ 4000) → -4000 ≤ v ∧ v ≤ 4000 := fun u v e hu => by
      by_cases hv : v = 0
      · omega
      · have h2 := Int.natAbs_mul c v
        rw [← e] at h2
        have h3 : 1 ≤ c.natAbs := by omega
        have h4 := Nat.mul_le_mul_right v.natAbs h3
        omega
    obtain ⟨b0, b1, b2, b3⟩ := B
    exact ⟨t _ _ (congrArg Qt.w he) b0, t _ _ (congrArg Qt.x he) b1, t _ _ (congrArg Qt.y he) b2, t _ _ (congrArg Qt.z he) b3⟩
  have hk : A.rot.low.lq.red.wh.okb = true := by
    obtain ⟨b0, b1, b2, b3⟩ := B2
    unfold Qd.okb
    apply decide_eq_true
    refine ⟨?_, ?_, ?_, ?_, ?_⟩ <;> simp only [Qt.wh] <;> omega
  have hs : A.rot.low.lq.red.wh.serr = 0 := by
    unfold Qd.serr
    rw [hk]
    have e : A.rot.low.lq.red.wh.num = A.rot.low.lq.red := rfl
    rw [e, hz2]; rfl
  refine ⟨hs, ?_⟩
  rw [Qd.rot_eq hs]
  have e : A.rot.low.lq.red.wh.num = A.rot.low.lq.red := rfl
  rw [e, Qt.red_rot hz, Qt.lq_rot hA]
/-- A multiple of an element. -/
def Qd.tms (n : Int) (q : Qd) : Qd := ⟨-n * q.w, -n * q.x, -n * q.y, -n * q.z, q.d⟩
theorem rot_tms {n : Int} (hn : 1 ≤ n) {q : Qd} (hk : (q.tms n).okb = true) (hs : q.serr = 0) (h1 : 1 ≤ q.num.nrm) : (q.tms n).serr = 0 ∧ (q.tms n).rot = q.rot := by
  have e : (q.tms n).num = Qt.smul (-n) q.num := rfl
  have h2 := smul_ne (c := -n) (by omega) h1
  have hs2 : (q.tms n).serr = 0 := by unfold Qd.serr; rw [hk, e, Qt.nrm_ne h2]; rfl
  exact ⟨hs2, by rw [Qd.rot_eq hs2, Qd.rot_eq hs, e, Qt.rot_low (by omega) h1]⟩
theorem Rt.low_rng {q : Qd} (h : q.serr = 0) (hl : ¬ 1000000 < q.rot.n) : q.rot.err = 0 := by
  have hn : 1 ≤ q.num.red.nrm := by
    rcases q.serr_cases with ⟨_, h'⟩ | ⟨_, _, h'⟩ | ⟨_, hz, _⟩
    · rw [h'] at h; exact absurd h (by decide)
    · rw [h'] at h; exact absurd h (by decide)
    · exact (Qt.red_nrm hz).1
  have ho := Qt.low_orth hn
  have h1 := (Rt.low_n (x := q.num.red.rot) hn).1
  have hb := ho.bd h1
  unfold Rt.err
  rw [if_pos ⟨⟨h1, by have e : q.rot.n = q.num.red.rot.low.n := rfl; omega⟩, hb⟩, if_pos ⟨⟨ho.aa, ho.bb, ho.cc⟩, ⟨ho.ab, ho.ac, ho.bc⟩, ho.c0, ho.c1, ho.c2⟩]
end Go.Proofs.Ythajaabgcbjfkaa
