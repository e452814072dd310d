/- Contracts of the reference: Reduced, SpaceErr, Coords, Whole, norm, LowestRotation. -/
import Derived.Test.YthajaabgcbjfkaaDoorT6
namespace Go.Proofs.YthajaabgcbjfkaaDoor
open Go.RowKit

theorem rreduced_in (a : Qt) (h : a.InR) (hz : a.eqb ⟨0, 0, 0, 0⟩ = false) (w : World) :
    Calls Tryd.prog 10 #[.agg #[.int .i64 a.w, .int .i64 a.x, .int .i64 a.y, .int .i64 a.z]] w fun e w' => e = .returned (.agg #[.int .i64 a.red.w, .int .i64 a.red.x, .int .i64 a.red.y, .int .i64 a.red.z]) ∧ Below w.heap.size w w' := by
  have hg : 1 ≤ a.gq := g4_pos hz
  have hle := (Qt.gq_le (B := 4000000000000000000) (by omega) h).2
  obtain ⟨n0, n1, n2, n3⟩ := h
  have gg := bgcd_4 _ _ (igcd_4 _ _ n0 n1) (igcd_4 _ _ n2 n3)
  rw [Qt.gq_igcd] at gg
  rw [Qt.red_u0 hz]
  exact rreduced_walk a _ _ a.gq a.u3 a.u2 a.u1 a.u0 ⟨hg, hle⟩ ⟨n0, n1, n2, n3⟩ rfl rfl rfl rfl (bgcd_4 _ _ n0 n1) (bgcd_4 _ _ n2 n3) gg w

set_option maxRecDepth 10000 in
set_option maxHeartbeats 4000000 in
theorem rspaceErr_any (q : Qd) (w : World) :
    Calls Tryd.prog 24 #[.agg #[.int .i64 q.w, .int .i64 q.x, .int .i64 q.y, .int .i64 q.z, .int .i64 q.d]] w fun e w' => e = .returned (.int .i64 q.serr) ∧ Below w.heap.size w w' := by
  have CQ := Lib.hid (fun w => rquatErr_any q w)
  rcases q.serr_cases with ⟨hk, hs⟩ | ⟨hk, hz, hs⟩ | ⟨hk, hz, hs⟩
  · rw [hs]
    have e3 : q.err = 3 := by unfold Qd.err; rw [hk]; rfl
    rw [e3] at CQ
    clear hk hs e3
    go_enter Tryd.func24, Tryd.ntmps24
    go_wp2_with (first | (go_at_call 50; with_reducible refine (CQ.out _).mono ?_; rintro e w1 ⟨rfl, hb1⟩; obtain ⟨g1, rfl⟩ := more_of_below hb1; clear hb1))
    go_ret
    exact ⟨rfl, by (repeat (first | with_reducible assumption | with_reducible exact Below.refl _ _ | with_reducible refine Below.drewN ?_ _ | with_reducible refine Below.drew ?_ | with_reducible refine Below.alloc ?_ (by first | omega | (simp; done) | (simp; omega)) _ | with_reducible refine Below.setCell ?_ (by first | omega | (simp; done) | (simp; omega)) _ | with_reducible refine below_more _ _ ?_ (by first | omega | (simp; done) | (simp; omega))))⟩
  · rw [hs]
    have e3 : q.err = 0 := by unfold Qd.err; rw [hk]; rfl
    rw [e3] at CQ
    have hq := Qt.eqb_iff.1 hz
    obtain ⟨qw, qx, qy, qz, qd⟩ := q
    simp only [Qd.num, Qt.mk.injEq] at hq
    obtain ⟨rfl, rfl, rfl, rfl⟩ := hq
    clear hk hs e3 hz
    go_enter Tryd.func24, Tryd.ntmps24
    go_wp2_with (first | (go_at_call 50; with_reducible refine (CQ.out _).mono ?_; rintro e w1 ⟨rfl, hb1⟩; obtain ⟨g1, rfl⟩ := more_of_below hb1; clear hb1))
    go_ret
    exact ⟨rfl, by (repeat (first | with_reducible assumption | with_reducible exact Below.refl _ _ | with_reducible refine Below.drewN ?_ _ | with_reducible refine Below.drew ?_ | with_reducible refine Below.alloc ?_ (by first | omega | (simp; done) | (simp; omega)) _ | with_reducible refine Below.setCell ?_ (by first | omega | (simp; done) | (simp; omega)) _ | with_reducible refine below_more _ _ ?_ (by first | omega | (simp; done) | (simp; omega))))⟩
  · rw [hs]
    have e3 : q.err = 0 := by unfold Qd.err; rw [hk]; rfl
    rw [e3] at CQ
    have hn : ¬ (q.w = 0 ∧ q.x = 0 ∧ q.y = 0 ∧ q.z = 0) := fun ⟨a, b, c, d⟩ => by
      have : q.num.eqb ⟨0, 0, 0, 0⟩ = true := Qt.eqb_iff.2 (Qt.ext' a b c d)
      rw [hz] at this; exact Bool.noConfusion this
    obtain ⟨qw, qx, qy, qz, qd⟩ := q
    simp only at hn
    clear hk hs e3 hz
    have hd : (qw == 0) = false ∨ ((qw == 0) = true ∧ (qx == 0) = false) ∨ ((qw == 0) = true ∧ (qx == 0) = true ∧ (qy == 0) = false) ∨ ((qw == 0) = true ∧ (qx == 0) = true ∧ (qy == 0) = true ∧ (qz == 0) = false) := by
      simp only [beq_iff_eq, beq_eq_false_iff_ne, ne_eq]; omega
    clear hn
    rcases hd with d0 | ⟨d0, d1⟩ | ⟨d0, d1, d2⟩ | ⟨d0, d1, d2, d3⟩
    all_goals
      go_enter Tryd.func24, Tryd.ntmps24
      go_wp2_with (first | (go_at_call 50; with_reducible refine (CQ.out _).mono ?_; rintro e w1 ⟨rfl, hb1⟩; obtain ⟨g1, rfl⟩ := more_of_below hb1; clear hb1))
      go_ret
      exact ⟨rfl, by (repeat (first | with_reducible assumption | with_reducible exact Below.refl _ _ | with_reducible refine Below.drewN ?_ _ | with_reducible refine Below.drew ?_ | with_reducible refine Below.alloc ?_ (by first | omega | (simp; done) | (simp; omega)) _ | with_reducible refine Below.setCell ?_ (by first | omega | (simp; done) | (simp; omega)) _ | with_reducible refine below_more _ _ ?_ (by first | omega | (simp; done) | (simp; omega))))⟩

set_option maxRecDepth 10000 in
set_option maxHeartbeats 1000000 in
theorem rcoords_in (q : Qd) (h : q.okb = true) (hz : q.num.eqb ⟨0, 0, 0, 0⟩ = false) (w : World) :
    Calls Tryd.prog 26 #[.agg #[.int .i64 q.w, .int .i64 q.x, .int .i64 q.y, .int .i64 q.z, .int .i64 q.d]] w fun e w' => e = .returned (.agg #[.int .i64 q.num.red.w, .int .i64 q.num.red.x, .int .i64 q.num.red.y, .int .i64 q.num.red.z]) ∧ Below w.heap.size w w' := by
  have CR := Lib.hid (fun w => rreduced_in q.num (Qd.num_InR h) hz w)
  generalize q.num.red = r at *
  obtain ⟨qw, qx, qy, qz, qd⟩ := q
  simp only [Qd.num] at CR
  clear h hz
  go_enter Tryd.func26, Tryd.ntmps26
  go_wp2_with (first | (go_at_call 10; with_reducible refine (CR.out _).mono ?_; rintro e w1 ⟨rfl, hb1⟩; obtain ⟨g1, rfl⟩ := more_of_below hb1; clear hb1))
  refine bodyPost_ret (v := .agg #[.int .i64 r.w, .int .i64 r.x, .int .i64 r.y, .int .i64 r.z]) (by simp [results, Tryd.results26, go_sem]) rfl ⟨rfl, by (repeat (first | with_reducible assumption | with_reducible exact Below.refl _ _ | with_reducible refine Below.drewN ?_ _ | with_reducible refine Below.drew ?_ | with_reducible refine Below.alloc ?_ (by first | omega | (simp; done) | (simp; omega)) _ | with_reducible refine Below.setCell ?_ (by first | omega | (simp; done) | (simp; omega)) _ | with_reducible refine below_more _ _ ?_ (by first | omega | (simp; done) | (simp; omega))))⟩
set_option maxRecDepth 10000 in
set_option maxHeartbeats 1000000 in
theorem rwhole4_any (a : Qt) (w : World) :
    Calls Tryd.prog 9 #[.agg #[.int .i64 a.w, .int .i64 a.x, .int .i64 a.y, .int .i64 a.z]] w fun e w' => e = .returned (.agg #[.int .i64 a.w, .int .i64 a.x, .int .i64 a.y, .int .i64 a.z, .int .i64 1]) ∧ Below w.heap.size w w' := by
  go_enter Tryd.func9, Tryd.ntmps9
  go_wp2
  refine bodyPost_ret (v := .agg #[.int .i64 a.w, .int .i64 a.x, .int .i64 a.y, .int .i64 a.z, .int .i64 1]) (by simp [results, Tryd.results9, go_sem]) rfl ⟨rfl, by (repeat (first | with_reducible assumption | with_reducible exact Below.refl _ _ | with_reducible refine Below.drewN ?_ _ | with_reducible refine Below.drew ?_ | with_reducible refine Below.alloc ?_ (by first | omega | (simp; done) | (simp; omega)) _ | with_reducible refine Below.setCell ?_ (by first | omega | (simp; done) | (simp; omega)) _ | with_reducible refine below_more _ _ ?_ (by first | omega | (simp; done) | (simp; omega))))⟩

theorem igcd_chain (n a b c : Int) (_hn : 0 ≤ n) : igcd (igcd (igcd n a) b) c = g4 n a b c := by
  unfold g4 igcd gcdL
  simp only [List.foldl_cons, List.foldl_nil, Nat.gcd_zero_left, Int.gcd_eq_natAbs_gcd_natAbs, Int.natAbs_natCast]
end Go.Proofs.YthajaabgcbjfkaaDoor
