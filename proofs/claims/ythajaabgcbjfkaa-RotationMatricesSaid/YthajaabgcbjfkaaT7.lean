/- Contracts of the reference: Reduced, SpaceErr, Coords, Whole, norm, LowestRotation. -/
import Derived.Test.YthajaabgcbjfkaaT6
namespace Go.Proofs.Ythajaabgcbjfkaa
open Go.RowKit

theorem rreduced_in (a : Qt) (h : a.InR) (hz : a.eqb ⟨0, 0, 0, 0⟩ = false) (w : World) :
    Calls Try.prog 97 #[.agg #[.int .i64 a.w, .int .i64 a.x, .int .i64 a.y, .int .i64 a.z]] w fun e w' => e = .returned (.agg #[.int .i64 a.red.w, .int .i64 a.red.x, .int .i64 a.red.y, .int .i64 a.red.z]) ∧ Below w.heap.size w w' := by
  have hg : 1 ≤ a.gq := g4_pos hz
  have hle := (Qt.gq_le (B := 4000000000000000000) (by omega) h).2
  obtain ⟨n0, n1, n2, n3⟩ := h
  have gg := bgcd_4 _ _ (igcd_4 _ _ n0 n1) (igcd_4 _ _ n2 n3)
  rw [Qt.gq_igcd] at gg
  rw [Qt.red_u0 hz]
  exact rreduced_walk a _ _ a.gq a.u3 a.u2 a.u1 a.u0 ⟨hg, hle⟩ ⟨n0, n1, n2, n3⟩ rfl rfl rfl rfl (bgcd_4 _ _ n0 n1) (bgcd_4 _ _ n2 n3) gg w

set_option maxRecDepth 10000 in
set_option maxHeartbeats 4000000 in
theorem rspaceErr_any (q : Qd) (w : World) :
    Calls Try.prog 51 #[.agg #[.int .i64 q.w, .int .i64 q.x, .int .i64 q.y, .int .i64 q.z, .int .i64 q.d]] w fun e w' => e = .returned (.int .i64 q.serr) ∧ Below w.heap.size w w' := by
  have CQ := Lib.hid (fun w => rquatErr_any q w)
  rcases q.serr_cases with ⟨hk, hs⟩ | ⟨hk, hz, hs⟩ | ⟨hk, hz, hs⟩
  · rw [hs]
    have e3 : q.err = 3 := by unfold Qd.err; rw [hk]; rfl
    rw [e3] at CQ
    clear hk hs e3
    go_enter Try.func51, Try.ntmps51
    go_wp2_with (first | (go_at_call 68; with_reducible refine (CQ.out _).mono ?_; rintro e w1 ⟨rfl, hb1⟩; obtain ⟨g1, rfl⟩ := more_of_below hb1; clear hb1))
    go_ret
    exact ⟨rfl, by (repeat (first | with_reducible assumption | with_reducible exact Below.refl _ _ | with_reducible refine Below.drewN ?_ _ | with_reducible refine Below.drew ?_ | with_reducible refine Below.alloc ?_ (by first | omega | (simp; done) | (simp; omega)) _ | with_reducible refine Below.setCell ?_ (by first | omega | (simp; done) | (simp; omega)) _ | with_reducible refine below_more _ _ ?_ (by first | omega | (simp; done) | (simp; omega))))⟩
  · rw [hs]
    have e3 : q.err = 0 := by unfold Qd.err; rw [hk]; rfl
    rw [e3] at CQ
    have hq := Qt.eqb_iff.1 hz
    obtain ⟨qw, qx, qy, qz, qd⟩ := q
    simp only [Qd.num, Qt.mk.injEq] at hq
    obtain ⟨rfl, rfl, rfl, rfl⟩ := hq
    clear hk hs e3 hz
    go_enter Try.func51, Try.ntmps51
    go_wp2_with (first | (go_at_call 68; with_reducible refine (CQ.out _).mono ?_; rintro e w1 ⟨rfl, hb1⟩; obtain ⟨g1, rfl⟩ := more_of_below hb1; clear hb1))
    go_ret
    exact ⟨rfl, by (repeat (first | with_reducible assumption | with_reducible exact Below.refl _ _ | with_reducible refine Below.drewN ?_ _ | with_reducible refine Below.drew ?_ | with_reducible refine Below.alloc ?_ (by first | omega | (simp; done) | (simp; omega)) _ | with_reducible refine Below.setCell ?_ (by first | omega | (simp; done) | (simp; omega)) _ | with_reducible refine below_more _ _ ?_ (by first | omega | (simp; done) | (simp; omega))))⟩
  · rw [hs]
    have e3 : q.err = 0 := by unfold Qd.err; rw [hk]; rfl
    rw [e3] at CQ
    have hn : ¬ (q.w = 0 ∧ q.x = 0 ∧ q.y = 0 ∧ q.z = 0) := fun ⟨a, b, c, d⟩ => by
      have : q.num.eqb ⟨0, 0, 0, 0⟩ = true := Qt.eqb_iff.2 (Qt.ext' a b c d)
      rw [hz] at this; exact Bool.noConfusion this
    obtain ⟨qw, qx, qy, qz, qd⟩ := q
    simp only at hn
    clear hk hs e3 hz
    have hd : (qw == 0) = false ∨ ((qw == 0) = true ∧ (qx == 0) = false) ∨ ((qw == 0) = true ∧ (qx == 0) = true ∧ (qy == 0) = false) ∨ ((qw == 0) = true ∧ (qx == 0) = true ∧ (qy == 0) = true ∧ (qz == 0) = false) := by
      simp only [beq_iff_eq, beq_eq_false_iff_ne, ne_eq]; omega
    clear hn
    rcases hd with d0 | ⟨d0, d1⟩ | ⟨d0, d1, d2⟩ | ⟨d0, d1, d2, d3⟩
    all_goals
      go_enter Try.func51, Try.ntmps51
      go_wp2_with (first | (go_at_call 68; with_reducible refine (CQ.out _).mono ?_; rintro e w1 ⟨rfl, hb1⟩; obtain ⟨g1, rfl⟩ := more_of_below hb1; clear hb1))
      go_ret
      exact ⟨rfl, by (repeat (first | with_reducible assumption | with_reducible exact Below.refl _ _ | with_reducible refine Below.drewN ?_ _ | with_reducible refine Below.drew ?_ | with_reducible refine Below.alloc ?_ (by first | omega | (simp; done) | (simp; omega)) _ | with_reducible refine Below.setCell ?_ (by first | omega | (simp; done) | (simp; omega)) _ | with_reducible refine below_more _ _ ?_ (by first | omega | (simp; done) | (simp; omega))))⟩

set_option maxRecDepth 10000 in
set_option maxHeartbeats 1000000 in
theorem rcoords_in (q : Qd) (h : q.okb = true) (hz : q.num.eqb ⟨0, 0, 0, 0⟩ = false) (w : World) :
    Calls Try.prog 98 #[.agg #[.int .i64 q.w, .int .i64 q.x, .int .i64 q.y, .int .i64 q.z, .int .i64 q.d]] w fun e w' => e = .returned (.agg #[.int .i64 q.num.red.w, .int .i64 q.num.red.x, .int .i64 q.num.red.y, .int .i64 q.num.red.z]) ∧ Below w.heap.size w w' := by
  have CR := Lib.hid (fun w => rreduced_in q.num (Qd.num_InR h) hz w)
  generalize q.num.red = r at *
  obtain ⟨qw, qx, qy, qz, qd⟩ := q
  simp only [Qd.num] at CR
  clear h hz
  go_enter Try.func98, Try.ntmps98
  go_wp2_with (first | (go_at_call 97; with_reducible refine (CR.out _).mono ?_; rintro e w1 ⟨rfl, hb1⟩; obtain ⟨g1, rfl⟩ := more_of_below hb1; clear hb1))
  refine bodyPost_ret (v := .agg #[.int .i64 r.w, .int .i64 r.x, .int .i64 r.y, .int .i64 r.z]) (by simp [results, Try.results98, go_sem]) rfl ⟨rfl, by (repeat (first | with_reducible assumption | with_reducible exact Below.refl _ _ | with_reducible refine Below.drewN ?_ _ | with_reducible refine Below.drew ?_ | with_reducible refine Below.alloc ?_ (by first | omega | (simp; done) | (simp; omega)) _ | with_reducible refine Below.setCell ?_ (by first | omega | (simp; done) | (simp; omega)) _ | with_reducible refine below_more _ _ ?_ (by first | omega | (simp; done) | (simp; omega))))⟩
set_option maxRecDepth 10000 in
set_option maxHeartbeats 1000000 in
theorem rwhole4_any (a : Qt) (w : World) :
    Calls Try.prog 96 #[.agg #[.int .i64 a.w, .int .i64 a.x, .int .i64 a.y, .int .i64 a.z]] w fun e w' => e = .returned (.agg #[.int .i64 a.w, .int .i64 a.x, .int .i64 a.y, .int .i64 a.z, .int .i64 1]) ∧ Below w.heap.size w w' := by
  go_enter Try.func96, Try.ntmps96
  go_wp2
  refine bodyPost_ret (v := .agg #[.int .i64 a.w, .int .i64 a.x, .int .i64 a.y, .int .i64 a.z, .int .i64 1]) (by simp [results, Try.results96, go_sem]) rfl ⟨rfl, by (repeat (first | with_reducible assumption | with_reducible exact Below.refl _ _ | with_reducible refine Below.drewN ?_ _ | with_reducible refine Below.drew ?_ | with_reducible refine Below.alloc ?_ (by first | omega | (simp; done) | (simp; omega)) _ | with_reducible refine Below.setCell ?_ (by first | omega | (simp; done) | (simp; omega)) _ | with_reducible refine below_more _ _ ?_ (by first | omega | (simp; done) | (simp; omega))))⟩
set_option maxRecDepth 10000 in
set_option maxHeartbeats 1000000 in
theorem rnorm4_in (a : Qt) (h : a.nrm ≤ 9000000000000000000) (w : World) :
    Calls Try.prog 99 #[.agg #[.int .i64 a.w, .int .i64 a.x, .int .i64 a.y, .int .i64 a.z]] w fun e w' => e = .returned (.int .i64 a.nrm) ∧ Below w.heap.size w w' := by
  have q0 := Qt.sq_nonneg a.w; have q1 := Qt.sq_nonneg a.x; have q2 := Qt.sq_nonneg a.y; have q3 := Qt.sq_nonneg a.z
  unfold Qt.nrm at h
  have hn : a.nrm = a.w * a.w + a.x * a.x + a.y * a.y + a.z * a.z := rfl
  rw [hn]
  clear hn
  have b0 : a.w * a.w ≤ 9000000000000000000 := by omega
  have b1 : a.x * a.x ≤ 9000000000000000000 := by omega
  have b2 : a.y * a.y ≤ 9000000000000000000 := by omega
  have b3 : a.z * a.z ≤ 9000000000000000000 := by omega
  go_enter Try.func99, Try.ntmps99
  go_wp2
  go_ret
  exact ⟨rfl, by (repeat (first | with_reducible assumption | with_reducible exact Below.refl _ _ | with_reducible refine Below.drewN ?_ _ | with_reducible refine Below.drew ?_ | with_reducible refine Below.alloc ?_ (by first | omega | (simp; done) | (simp; omega)) _ | with_reducible refine Below.setCell ?_ (by first | omega | (simp; done) | (simp; omega)) _ | with_reducible refine below_more _ _ ?_ (by first | omega | (simp; done) | (simp; omega))))⟩

theorem igcd_chain (n a b c : Int) (_hn : 0 ≤ n) : igcd (igcd (igcd n a) b) c = g4 n a b c := by
  unfold g4 igcd gcdL
  simp only [List.foldl_cons, List.foldl_nil, Nat.gcd_zero_left, Int.gcd_eq_natAbs_gcd_natAbs, Int.natAbs_natCast]
set_option maxRecDepth 100000 in
set_option maxHeartbeats 4000000 in
theorem rlowest_any (x : Rt) (h : x.In) (w : World) :
    Calls Try.prog 100 #[.agg #[.int .i64 x.a, .int .i64 x.b, .int .i64 x.c, .int .i64 x.d, .int .i64 x.e, .int .i64 x.f, .int .i64 x.g, .int .i64 x.h, .int .i64 x.i, .int .i64 x.n]] w fun e w' => e = .returned (.agg #[.int .i64 x.low.a, .int .i64 x.low.b, .int .i64 x.low.c, .int .i64 x.low.d, .int .i64 x.low.e, .int .i64 x.low.f, .int .i64 x.low.g, .int .i64 x.low.h, .int .i64 x.low.i, .int .i64 x.low.n]) ∧ Below w.heap.size w w' := by
  have l3 : 1 ≤ x.lg ∧ x.lg ≤ x.n := Rt.lg_pos h.n.1
  have hl : x.low = ⟨x.a.tdiv x.lg, x.b.tdiv x.lg, x.c.tdiv x.lg, x.d.tdiv x.lg, x.e.tdiv x.lg, x.f.tdiv x.lg, x.g.tdiv x.lg, x.h.tdiv x.lg, x.i.tdiv x.lg, x.n / x.lg⟩ := rfl
  have N : N4 x.n := by have := h.n; unfold N4; omega
  have g1n : 1 ≤ x.g1 := (g4_le (b := x.a) (c := x.b) (d := x.c) h.n.1).1
  have g2n : 1 ≤ x.g2 := (g4_le (a := x.g1) (b := x.d) (c := x.e) (d := x.f) g1n).1
  have e1 : igcd (igcd (igcd x.n x.a) x.b) x.c = x.g1 := igcd_chain _ _ _ _ (by have := h.n; omega)
  have e2 : igcd (igcd (igcd x.g1 x.d) x.e) x.f = x.g2 := igcd_chain _ _ _ _ (by omega)
  have e3 : igcd (igcd (igcd x.g2 x.g) x.h) x.i = x.lg := igcd_chain _ _ _ _ (by omega)
  have ka : N4 x.a := h.a
  have c0 := bgcd_4 (x.n) x.a N ka
  have m0 := igcd_4 (x.n) x.a N ka
  have kb : N4 x.b := h.b
  have c1 := bgcd_4 (igcd (x.n) x.a) x.b m0 kb
  have m1 := igcd_4 (igcd (x.n) x.a) x.b m0 kb
  have kc : N4 x.c := h.c
  have c2 := bgcd_4 (igcd (igcd (x.n) x.a) x.b) x.c m1 kc
  have m2 := igcd_4 (igcd (igcd (x.n) x.a) x.b) x.c m1 kc
  rw [e1] at c2 m2
  have kd : N4 x.d := h.d
  have c3 := bgcd_4 (x.g1) x.d m2 kd
  have m3 := igcd_4 (x.g1) x.d m2 kd
  have ke : N4 x.e := h.e
  have c4 := bgcd_4 (igcd (x.g1) x.d) x.e m3 ke
  have m4 := igcd_4 (igcd (x.g1) x.d) x.e m3 ke
  have kf : N4 x.f := h.f
  have c5 := bgcd_4 (igcd (igcd (x.g1) x.d) x.e) x.f m4 kf
  have m5 := igcd_4 (igcd (igcd (x.g1) x.d) x.e) x.f m4 kf
  rw [e2] at c5 m5
  have kg : N4 x.g := h.g
  have c6 := bgcd_4 (x.g2) x.g m5 kg
  have m6 := igcd_4 (x.g2) x.g m5 kg
  have kh : N4 x.h := h.h
  have c7 := bgcd_4 (igcd (x.g2) x.g) x.h m6 kh
  have m7 := igcd_4 (igcd (x.g2) x.g) x.h m6 kh
  have ki : N4 x.i := h.i
  have c8 := bgcd_4 (igcd (igcd (x.g2) x.g) x.h) x.i m7 ki
  have m8 := igcd_4 (igcd (igcd (x.g2) x.g) x.h) x.i m7 ki
  rw [e3] at c8 m8
  have C0 := Lib.hid c0
  have C1 := Lib.hid c1
  have C2 := Lib.hid c2
  have C3 := Lib.hid c3
  have C4 := Lib.hid c4
  have C5 := Lib.hid c5
  have C6 := Lib.hid c6
  have C7 := Lib.hid c7
  have C8 := Lib.hid c8
  clear c0 m0 c1 m1 c2 m2 c3 m3 c4 m4 c5 m5 c6 m6 c7 m7 c8 m8 e1 e2 e3 g1n g2n N ka kb kc kd ke kf kg kh ki
  obtain ⟨p0, q0⟩ := Qt.tdiv_bd _ x.lg _ (by omega) l3.1 h.a
  obtain ⟨p1, q1⟩ := Qt.tdiv_bd _ x.lg _ (by omega) l3.1 h.b
  obtain ⟨p2, q2⟩ := Qt.tdiv_bd _ x.lg _ (by omega) l3.1 h.c
  obtain ⟨p3, q3⟩ := Qt.tdiv_bd _ x.lg _ (by omega) l3.1 h.d
  obtain ⟨p4, q4⟩ := Qt.tdiv_bd _ x.lg _ (by omega) l3.1 h.e
  obtain ⟨p5, q5⟩ := Qt.tdiv_bd _ x.lg _ (by omega) l3.1 h.f
  obtain ⟨p6, q6⟩ := Qt.tdiv_bd _ x.lg _ (by omega) l3.1 h.g
  obtain ⟨p7, q7⟩ := Qt.tdiv_bd _ x.lg _ (by omega) l3.1 h.h
  obtain ⟨p8, q8⟩ := Qt.tdiv_bd _ x.lg _ (by omega) l3.1 h.i
  obtain ⟨n1, n2⟩ := h.n
  obtain ⟨l3a, l3b⟩ := l3
  have ln : ¬ x.lg = 0 := by omega
  have hnn := Int.ediv_le_self x.lg (show 0 ≤ x.n by omega)
  have hn0 : 0 ≤ x.n / x.lg := Int.ediv_nonneg (by omega) (by omega)
  clear h l3b
  generalize x.low = y at *
  generalize x.lg = lg at *
  generalize x.g1 = g1 at *
  generalize x.g2 = g2 at *
  subst hl
  obtain ⟨xa, xb, xc, xd, xe, xf, xg, xh, xi, xn⟩ := x
  simp only at *
  go_enter Try.func100, Try.ntmps100
  go_wp2_with fail
  refine wp_loop_rounds 4 ?_
  iterate 3 (rw [rounds_succ]; go_wp2_with fail; refine wp_loop_rounds 4 ?_; (iterate 3 (rw [rounds_succ]; go_wp2_with (first | (go_at_call 38; first | ((with_reducible refine (C0.out _).mono ?_); rintro e w1 ⟨rfl, hb1⟩; obtain ⟨v1, rfl⟩ := more_of_below hb1; clear hb1) | ((with_reducible refine (C1.out _).mono ?_); rintro e w1 ⟨rfl, hb1⟩; obtain ⟨v1, rfl⟩ := more_of_below hb1; clear hb1) | ((with_reducible refine (C2.out _).mono ?_); rintro e w1 ⟨rfl, hb1⟩; obtain ⟨v1, rfl⟩ := more_of_below hb1; clear hb1) | ((with_reducible refine (C3.out _).mono ?_); rintro e w1 ⟨rfl, hb1⟩; obtain ⟨v1, rfl⟩ := more_of_below hb1; clear hb1) | ((with_reducible refine (C4.out _).mono ?_); rintro e w1 ⟨rfl, hb1⟩; obtain ⟨v1, rfl⟩ := more_of_below hb1; clear hb1) | ((with_reducible refine (C5.out _).mono ?_); rintro e w1 ⟨rfl, hb1⟩; obtain ⟨v1, rfl⟩ := more_of_below hb1; clear hb1) | ((with_reducible refine (C6.out _).mono ?_); rintro e w1 ⟨rfl, hb1⟩; obtain ⟨v1, rfl⟩ := more_of_below hb1; clear hb1) | ((with_reducible refine (C7.out _).mono ?_); rintro e w1 ⟨rfl, hb1⟩; obtain ⟨v1, rfl⟩ := more_of_below hb1; clear hb1) | ((with_reducible refine (C8.out _).mono ?_); rintro e w1 ⟨rfl, hb1⟩; obtain ⟨v1, rfl⟩ := more_of_below hb1; clear hb1))))); rw [rounds_succ]; go_wp2_with fail)
  clear C0 C1 C2 C3 C4 C5 C6 C7 C8
  rw [rounds_succ]
  go_wp2_with fail
  refine wp_loop_rounds 4 ?_
  iterate 3 (rw [rounds_succ]; go_wp2; refine wp_loop_rounds 4 ?_; (iterate 3 (rw [rounds_succ]; go_wp2; go_region; go_wp2)); rw [rounds_succ]; go_wp2)
  rw [rounds_succ]
  go_wp2
  refine bodyPost_ret (v := .agg #[.int .i64 (xa.tdiv lg), .int .i64 (xb.tdiv lg), .int .i64 (xc.tdiv lg), .int .i64 (xd.tdiv lg), .int .i64 (xe.tdiv lg), .int .i64 (xf.tdiv lg), .int .i64 (xg.tdiv lg), .int .i64 (xh.tdiv lg), .int .i64 (xi.tdiv lg), .int .i64 (xn / lg)]) (by simp [results, Try.results100, go_sem]) rfl ⟨rfl, ?_⟩
  (repeat (first | with_reducible assumption | with_reducible exact Below.refl _ _ | with_reducible refine Below.drewN ?_ _ | with_reducible refine Below.drew ?_ | with_reducible refine Below.alloc ?_ (by first | omega | (simp; done) | (simp; omega)) _ | with_reducible refine Below.setCell ?_ (by first | omega | (simp; done) | (simp; omega)) _ | with_reducible refine below_more _ _ ?_ (by first | omega | (simp; done) | (simp; omega))))
end Go.Proofs.Ythajaabgcbjfkaa
