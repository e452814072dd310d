/- Contract: the common divisor (by remainders). -/
import Derived.Test.YthajaabgcbjfkaaK2
import Derived.Test.YthajaabgcbjfkaaH3
import Derived.Deep.LoopGhost
namespace Go.Proofs.Ythajaabgcbjfkaa
open Go.RowKit

theorem unitsL_all : (unA ++ unB).all (fun u => decide (u.nrm = 4) && decide ((u.x - u.w) % 2 = 0 ∧ (u.y - u.w) % 2 = 0 ∧ (u.z - u.w) % 2 = 0)) = true := by decide
theorem unitsL_spec {u : Qt} (h : u ∈ unitsL) : u.nrm = 4 ∧ Qt.Hz u := by
  have := List.all_eq_true.1 unitsL_all u (List.mem_mergeSort.1 h)
  simp only [Bool.and_eq_true, decide_eq_true_eq] at this
  exact ⟨this.1, (Qt.hz_iff u).2 this.2⟩
theorem canonical_hz (x : Qt) (b : x.nrm ≤ 4000000000000) (w : World) :
    Calls Try.prog 85 #[.agg #[.int .i64 x.w, .int .i64 x.x, .int .i64 x.y, .int .i64 x.z]] w fun e w' => e = .returned (.agg #[.int .i64 (canon x).w, .int .i64 (canon x).x, .int .i64 (canon x).y, .int .i64 (canon x).z]) ∧ Below w.heap.size w w' :=
  canonical_in x (fun u hu => Qt.inR_of_nrm (by rw [Qt.nrm_mul, (unitsL_spec hu).1]; omega)) w

/-- The common divisor, by remainders; the first number bounds the rounds. -/
def gcdF : Nat → Qt → Qt → Qt
  | 0, x, _ => x
  | n + 1, x, y => if y.eqb ⟨0, 0, 0, 0⟩ then x else gcdF n y (x.dr y)
theorem nrm_pos_of {y : Qt} (h : y.eqb ⟨0, 0, 0, 0⟩ = false) : 1 ≤ y.nrm := by
  have h0 := y.nrm_nonneg
  apply Int.not_lt.1
  intro hc
  obtain ⟨h1, h2, h3, h4⟩ := Qt.bd_of_nrm (a := y) (B := 0) (by omega) (by omega)
  have : y = ⟨0, 0, 0, 0⟩ := Qt.ext' (by simp only; omega) (by simp only; omega) (by simp only; omega) (by simp only; omega)
  rw [this] at h; exact absurd h (by decide)
theorem gcdF_zero (n : Nat) (x y : Qt) (h : y.eqb ⟨0, 0, 0, 0⟩ = true) : gcdF n x y = x := by
  cases n with
  | zero => rfl
  | succ n => exact if_pos h
/-- The state of the loop that Gcd is. -/
structure Gs (x0 y0 : Qt) (k : Nat) (x y : Qt) : Prop where
  hx : Qt.Hz x
  hy : Qt.Hz y
  bx : x.nrm ≤ 4000000000000
  by_ : y.nrm ≤ 4000000000000
  hk : y.nrm.toNat ≤ k
  he : gcdF k x y = gcdF y0.nrm.toNat x0 y0
theorem Gs.step {x0 y0 : Qt} {k : Nat} {x y : Qt} (h : Gs x0 y0 k x y) (hz : y.eqb ⟨0, 0, 0, 0⟩ = false) : ∃ k', k' < k ∧ Gs x0 y0 k' y (x.dr y) := by
  have hp := nrm_pos_of hz
  have hd := Qt.dr_nrm h.hx h.hy hp
  have hn := (x.dr y).nrm_nonneg
  have hk := h.hk
  have hb := h.by_
  cases k with
  | zero => omega
  | succ k =>
    refine ⟨k, by omega, h.hy, Qt.hz_dr h.hx h.hy, h.by_, by omega, by omega, ?_⟩
    rw [← h.he]
    exact (if_neg (by rw [hz]; decide)).symm

set_option maxRecDepth 10000 in
set_option maxHeartbeats 1000000 in
theorem common_in (x y : Qt) (hx : Qt.Hz x) (hy : Qt.Hz y) (bx : x.nrm ≤ 4000000000000) (b : y.nrm ≤ 4000000000000) (w : World) :
    Calls Try.prog 76 #[.agg #[.int .i64 x.w, .int .i64 x.x, .int .i64 x.y, .int .i64 x.z], .agg #[.int .i64 y.w, .int .i64 y.x, .int .i64 y.y, .int .i64 y.z]] w fun e w' => e = .returned (.agg #[.int .i64 (canon (gcdF y.nrm.toNat x y)).w, .int .i64 (canon (gcdF y.nrm.toNat x y)).x, .int .i64 (canon (gcdF y.nrm.toNat x y)).y, .int .i64 (canon (gcdF y.nrm.toNat x y)).z]) ∧ Below w.heap.size w w' := by
  have HG : Hid (Gs x y y.nrm.toNat x y) := show Hid _ from ⟨hx, hy, bx, b, Nat.le_refl _, rfl⟩
  clear hx hy bx b
  obtain ⟨x0, hx0⟩ : ∃ x0, x0 = x := ⟨_, rfl⟩
  obtain ⟨y0, hy0⟩ : ∃ y0, y0 = y := ⟨_, rfl⟩
  rw [← hx0, ← hy0] at HG
  go_enter Try.func76, Try.ntmps76
  go_wp2_with fail
  go_loopg [] y0.nrm.toNat (fun k wr => ∃ x y : Qt, Hid (Gs x0 y0 k x y) ∧ ∃ gg, wr = more (((w.alloc (.cells #[.int .i64 x.w, .int .i64 x.x, .int .i64 x.y, .int .i64 x.z] 96)).alloc (.cells #[.int .i64 y.w, .int .i64 y.x, .int .i64 y.y, .int .i64 y.z] 96)).alloc (.cells #[.int .i64 0, .int .i64 0, .int .i64 0, .int .i64 0] 96)) gg)
  case atStart =>
    subst hx0 hy0
    exact ⟨_, _, HG, more_of_below (by (repeat (first | with_reducible assumption | with_reducible exact Below.refl _ _ | with_reducible refine Below.drewN ?_ _ | with_reducible refine Below.drew ?_ | with_reducible refine Below.alloc ?_ (by first | omega | (simp; done) | (simp; omega)) _ | with_reducible refine Below.setCell ?_ (by first | omega | (simp; done) | (simp; omega)) _ | with_reducible refine below_more _ _ ?_ (by first | omega | (simp; done) | (simp; omega)))))⟩
  case round =>
    obtain ⟨x, y, HS, gg, rfl⟩ := hrel
    go_wp2_with (first | (go_at_call 65; with_reducible refine (hzero_any _ _).mono ?_; rintro e w2 ⟨rfl, hb2⟩; obtain ⟨g2, rfl⟩ := more_of_below hb2; clear hb2))
    · have hz : y.eqb ⟨0, 0, 0, 0⟩ = false := by first | assumption | simp_all
      obtain ⟨k', hk', HS'⟩ := HS.out.step hz
      have HH := Lib.hid HS'
      clear HS'
      go_wp2_with (first | (go_at_call 66; with_reducible refine (divide_hz _ _ HS.out.hx HS.out.hy HS.out.bx HS.out.by_ (nrm_pos_of hz) _).mono ?_; rintro e w3 ⟨rfl, hb3⟩; obtain ⟨g3, rfl⟩ := more_of_below hb3; clear hb3))
      go_region
      go_wp2
      all_goals go_roundg k'
      case measure => exact hk'
      case rel =>
        exact ⟨y, x.dr y, HH, more_of_below (by (repeat (first | with_reducible assumption | with_reducible exact Below.refl _ _ | with_reducible refine Below.drewN ?_ _ | with_reducible refine Below.drew ?_ | with_reducible refine Below.alloc ?_ (by first | omega | (simp; done) | (simp; omega)) _ | with_reducible refine Below.setCell ?_ (by first | omega | (simp; done) | (simp; omega)) _ | with_reducible refine below_more _ _ ?_ (by first | omega | (simp; done) | (simp; omega)))))⟩
    · have hz : y.eqb ⟨0, 0, 0, 0⟩ = true := by first | assumption | simp_all
      have hr : canon (gcdF y0.nrm.toNat x0 y0) = canon x := by rw [← HS.out.he, gcdF_zero _ _ _ hz]
      go_wp2_with (first | (go_at_call 85; with_reducible refine (canonical_hz _ HS.out.bx _).mono ?_; rintro e w3 ⟨rfl, hb3⟩; obtain ⟨g3, rfl⟩ := more_of_below hb3; clear hb3))
      refine bodyPost_ret (v := .agg #[.int .i64 (canon (gcdF y0.nrm.toNat x0 y0)).w, .int .i64 (canon (gcdF y0.nrm.toNat x0 y0)).x, .int .i64 (canon (gcdF y0.nrm.toNat x0 y0)).y, .int .i64 (canon (gcdF y0.nrm.toNat x0 y0)).z]) (by rw [hr]; simp [results, Try.results76, go_sem]) rfl ⟨by rw [hx0, hy0], by (repeat (first | with_reducible assumption | with_reducible exact Below.refl _ _ | with_reducible refine Below.drewN ?_ _ | with_reducible refine Below.drew ?_ | with_reducible refine Below.alloc ?_ (by first | omega | (simp; done) | (simp; omega)) _ | with_reducible refine Below.setCell ?_ (by first | omega | (simp; done) | (simp; omega)) _ | with_reducible refine below_more _ _ ?_ (by first | omega | (simp; done) | (simp; omega))))⟩
end Go.Proofs.Ythajaabgcbjfkaa
