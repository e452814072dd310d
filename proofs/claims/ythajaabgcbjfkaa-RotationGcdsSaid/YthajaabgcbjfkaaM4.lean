/- Contract: Matrix. -/
import Derived.Test.YthajaabgcbjfkaaM3
import Derived.Test.YthajaabgcbjfkaaK3
namespace Go.Proofs.Ythajaabgcbjfkaa
open Go.RowKit

set_option maxRecDepth 10000 in
set_option maxHeartbeats 1000000 in
theorem pmatrix_err (q : Qd) (h : q.serr ≠ 0) (w : World) :
    Calls Try.prog 46 #[.agg #[.int .i64 q.w, .int .i64 q.x, .int .i64 q.y, .int .i64 q.z, .int .i64 q.d]] w fun e w' => e = .returned (.tuple #[.agg #[.int .i64 0, .int .i64 0, .int .i64 0, .int .i64 0, .int .i64 0, .int .i64 0, .int .i64 0, .int .i64 0, .int .i64 0, .int .i64 0], .int .i64 q.serr]) ∧ Below w.heap.size w w' := by
  have C := Lib.hid (turn_err q h)
  have hb : (q.serr != 0) = true := by simpa using h
  generalize q.serr = s at *
  clear h
  go_enter Try.func46, Try.ntmps46
  go_wp2_with (first | (go_at_call 91; with_reducible refine (C.out _).mono ?_; rintro e w1 ⟨rfl, hb1⟩; obtain ⟨g1, rfl⟩ := more_of_below hb1; clear hb1))
  refine bodyPost_ret (v := .tuple #[.agg #[.int .i64 0, .int .i64 0, .int .i64 0, .int .i64 0, .int .i64 0, .int .i64 0, .int .i64 0, .int .i64 0, .int .i64 0, .int .i64 0], .int .i64 s]) (by simp [results, Try.results46, go_sem]) rfl ⟨rfl, by (repeat (first | with_reducible assumption | with_reducible exact Below.refl _ _ | with_reducible refine Below.drewN ?_ _ | with_reducible refine Below.drew ?_ | with_reducible refine Below.alloc ?_ (by first | omega | (simp; done) | (simp; omega)) _ | with_reducible refine Below.setCell ?_ (by first | omega | (simp; done) | (simp; omega)) _ | with_reducible refine below_more _ _ ?_ (by first | omega | (simp; done) | (simp; omega))))⟩

theorem Qt.nrm_pos {a : Qt} (h : a.eqb ⟨0, 0, 0, 0⟩ = false) : 1 ≤ a.nrm := nrm_pos_of h
theorem tdiv_sq (a g : Int) (_hg : 1 ≤ g) : a.tdiv g * a.tdiv g ≤ a * a := by
  have h1 := Int.natAbs_tdiv_le_natAbs a g
  have h2 := Nat.mul_le_mul h1 h1
  have e : ∀ x : Int, x * x = ((x.natAbs * x.natAbs : Nat) : Int) := fun x => by rw [Int.natCast_mul, Int.natAbs_mul_self']
  rw [e, e]
  omega
theorem Qt.nrm_neg (a : Qt) : a.neg.nrm = a.nrm := by simp only [Qt.nrm, Qt.neg, Int.neg_mul_neg]
theorem Qt.nrm_over (a : Qt) (g : Int) (hg : 1 ≤ g) : (a.over g).nrm ≤ a.nrm := by
  have h0 := tdiv_sq a.w g hg; have h1 := tdiv_sq a.x g hg; have h2 := tdiv_sq a.y g hg; have h3 := tdiv_sq a.z g hg
  simp only [Qt.nrm, Qt.over]; omega
/-- a is g times a / g. -/
theorem Qt.over_g4 (a : Qt) : a.w = g4 a.w a.x a.y a.z * (a.over (g4 a.w a.x a.y a.z)).w ∧ a.x = g4 a.w a.x a.y a.z * (a.over (g4 a.w a.x a.y a.z)).x ∧ a.y = g4 a.w a.x a.y a.z * (a.over (g4 a.w a.x a.y a.z)).y ∧ a.z = g4 a.w a.x a.y a.z * (a.over (g4 a.w a.x a.y a.z)).z := by
  obtain ⟨h1, h2, h3, h4⟩ := g4_dvd a.w a.x a.y a.z
  exact ⟨(Int.mul_tdiv_cancel' h1).symm, (Int.mul_tdiv_cancel' h2).symm, (Int.mul_tdiv_cancel' h3).symm, (Int.mul_tdiv_cancel' h4).symm⟩
theorem Qt.red_nrm {a : Qt} (h : a.eqb ⟨0, 0, 0, 0⟩ = false) : 1 ≤ a.red.nrm ∧ a.red.nrm ≤ a.nrm := by
  have hg := g4_pos h
  have hle := Qt.nrm_over a _ hg
  have hn := Qt.nrm_pos h
  have hpos : 1 ≤ (a.over (g4 a.w a.x a.y a.z)).nrm := by
    have h0 := (a.over (g4 a.w a.x a.y a.z)).nrm_nonneg
    apply Int.not_lt.1
    intro hc
    obtain ⟨k0, k1, k2, k3⟩ := Qt.bd_of_nrm (a := a.over (g4 a.w a.x a.y a.z)) (B := 0) (by omega) (by omega)
    obtain ⟨e0, e1, e2, e3⟩ := Qt.over_g4 a
    have z0 : (a.over (g4 a.w a.x a.y a.z)).w = 0 := by omega
    have z1 : (a.over (g4 a.w a.x a.y a.z)).x = 0 := by omega
    have z2 : (a.over (g4 a.w a.x a.y a.z)).y = 0 := by omega
    have z3 : (a.over (g4 a.w a.x a.y a.z)).z = 0 := by omega
    rw [z0, Int.mul_zero] at e0; rw [z1, Int.mul_zero] at e1; rw [z2, Int.mul_zero] at e2; rw [z3, Int.mul_zero] at e3
    have : a = ⟨0, 0, 0, 0⟩ := Qt.ext' e0 e1 e2 e3
    rw [this] at h
    exact absurd h (by decide)
  unfold Qt.red
  split
  · rw [Qt.nrm_neg]; exact ⟨hpos, hle⟩
  · exact ⟨hpos, hle⟩
theorem Qd.num_nrm {q : Qd} (h : q.okb = true) : q.num.nrm ≤ 4000000000000 := by
  simp only [Qd.okb, decide_eq_true_eq] at h
  obtain ⟨hw, hx, hy, hz, _⟩ := h
  have sq : ∀ u : Int, -1000000 ≤ u ∧ u ≤ 1000000 → u * u ≤ 1000000000000 := fun u h => by
    have : (1000000 - u) * (1000000 + u) ≥ 0 := Int.mul_nonneg (by omega) (by omega)
    grind
  have := sq _ hw; have := sq _ hx; have := sq _ hy; have := sq _ hz
  simp only [Qt.nrm, Qd.num]
  omega
/-- The rotation of an element. -/
def Qd.rot (q : Qd) : Rt := q.num.red.rot.low

set_option maxRecDepth 10000 in
set_option maxHeartbeats 1000000 in
theorem pmatrix_walk (q : Qd) (h : q.serr = 0) (ra rb rc rd re rf rg rh ri rn z : Int)
    (hm : ∀ w, Calls Try.prog 92 #[.agg #[.int .i64 q.num.red.w, .int .i64 q.num.red.x, .int .i64 q.num.red.y, .int .i64 q.num.red.z]] w fun e w' => e = .returned (.tuple #[.agg #[.int .i64 ra, .int .i64 rb, .int .i64 rc, .int .i64 rd, .int .i64 re, .int .i64 rf, .int .i64 rg, .int .i64 rh, .int .i64 ri, .int .i64 rn], .int .i64 z]) ∧ Below w.heap.size w w') (w : World) :
    Calls Try.prog 46 #[.agg #[.int .i64 q.w, .int .i64 q.x, .int .i64 q.y, .int .i64 q.z, .int .i64 q.d]] w fun e w' => e = .returned (.tuple #[.agg #[.int .i64 ra, .int .i64 rb, .int .i64 rc, .int .i64 rd, .int .i64 re, .int .i64 rf, .int .i64 rg, .int .i64 rh, .int .i64 ri, .int .i64 rn], .int .i64 z]) ∧ Below w.heap.size w w' := by
  have C := Lib.hid (turn_ok q h)
  have HM := Lib.hid hm
  generalize q.num.red = s at *
  clear h hm
  go_enter Try.func46, Try.ntmps46
  go_wp2_with (first | (go_at_call 91; with_reducible refine (C.out _).mono ?_; rintro e w1 ⟨rfl, hb1⟩; obtain ⟨g1, rfl⟩ := more_of_below hb1; clear hb1) | (go_at_call 92; with_reducible refine (HM.out _).mono ?_; rintro e w2 ⟨rfl, hb2⟩; obtain ⟨g2, rfl⟩ := more_of_below hb2; clear hb2))
  refine bodyPost_ret (v := .tuple #[.agg #[.int .i64 ra, .int .i64 rb, .int .i64 rc, .int .i64 rd, .int .i64 re, .int .i64 rf, .int .i64 rg, .int .i64 rh, .int .i64 ri, .int .i64 rn], .int .i64 z]) (by simp [results, Try.results46, go_sem]) rfl ⟨rfl, by (repeat (first | with_reducible assumption | with_reducible exact Below.refl _ _ | with_reducible refine Below.drewN ?_ _ | with_reducible refine Below.drew ?_ | with_reducible refine Below.alloc ?_ (by first | omega | (simp; done) | (simp; omega)) _ | with_reducible refine Below.setCell ?_ (by first | omega | (simp; done) | (simp; omega)) _ | with_reducible refine below_more _ _ ?_ (by first | omega | (simp; done) | (simp; omega))))⟩
theorem pmatrix_large (q : Qd) (h : q.serr = 0) (hl : 1000000 < q.rot.n) (w : World) :
    Calls Try.prog 46 #[.agg #[.int .i64 q.w, .int .i64 q.x, .int .i64 q.y, .int .i64 q.z, .int .i64 q.d]] w fun e w' => e = .returned (.tuple #[.agg #[.int .i64 0, .int .i64 0, .int .i64 0, .int .i64 0, .int .i64 0, .int .i64 0, .int .i64 0, .int .i64 0, .int .i64 0, .int .i64 0], .int .i64 8]) ∧ Below w.heap.size w w' := by
  rcases q.serr_cases with h' | h' | h'
  · rw [h'.2] at h; exact absurd h (by decide)
  · rw [h'.2.2] at h; exact absurd h (by decide)
  have hn := Qt.red_nrm h'.2.1
  have hb := Qd.num_nrm h'.1
  exact pmatrix_walk q h 0 0 0 0 0 0 0 0 0 0 8 (fun w => (matrix_any _ hn.1 (by omega) w).mono fun (e : Ending) w' ⟨h1, _, h3⟩ => ⟨h1 hl, h3⟩) w
theorem pmatrix_ok (q : Qd) (h : q.serr = 0) (hl : q.rot.n ≤ 1000000) (w : World) :
    Calls Try.prog 46 #[.agg #[.int .i64 q.w, .int .i64 q.x, .int .i64 q.y, .int .i64 q.z, .int .i64 q.d]] w fun e w' => e = .returned (.tuple #[.agg #[.int .i64 q.rot.a, .int .i64 q.rot.b, .int .i64 q.rot.c, .int .i64 q.rot.d, .int .i64 q.rot.e, .int .i64 q.rot.f, .int .i64 q.rot.g, .int .i64 q.rot.h, .int .i64 q.rot.i, .int .i64 q.rot.n], .int .i64 0]) ∧ Below w.heap.size w w' := by
  rcases q.serr_cases with h' | h' | h'
  · rw [h'.2] at h; exact absurd h (by decide)
  · rw [h'.2.2] at h; exact absurd h (by decide)
  have hn := Qt.red_nrm h'.2.1
  have hb := Qd.num_nrm h'.1
  exact pmatrix_walk q h _ _ _ _ _ _ _ _ _ _ 0 (fun w => (matrix_any _ hn.1 (by omega) w).mono fun (e : Ending) w' ⟨_, h1, h3⟩ => ⟨h1 hl, h3⟩) w
end Go.Proofs.Ythajaabgcbjfkaa
