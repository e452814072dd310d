/- Contracts: Compose of the program. -/
import Derived.Test.YthajaabgcbjfkaaT9a
namespace Go.Proofs.Ythajaabgcbjfkaa
open Go.RowKit

set_option maxRecDepth 100000 in
set_option maxHeartbeats 8000000 in
theorem pcompose_err1 (x y : Rt) (d : Int) (hd : d ≠ 0)
    (c1 : ∀ w, Calls Try.prog 49 #[.agg #[.int .i64 x.a, .int .i64 x.b, .int .i64 x.c, .int .i64 x.d, .int .i64 x.e, .int .i64 x.f, .int .i64 x.g, .int .i64 x.h, .int .i64 x.i, .int .i64 x.n]] w fun e w' => e = .returned (.int .i64 d) ∧ Below w.heap.size w w') (w : World) :
    Calls Try.prog 53 #[.agg #[.int .i64 x.a, .int .i64 x.b, .int .i64 x.c, .int .i64 x.d, .int .i64 x.e, .int .i64 x.f, .int .i64 x.g, .int .i64 x.h, .int .i64 x.i, .int .i64 x.n], .agg #[.int .i64 y.a, .int .i64 y.b, .int .i64 y.c, .int .i64 y.d, .int .i64 y.e, .int .i64 y.f, .int .i64 y.g, .int .i64 y.h, .int .i64 y.i, .int .i64 y.n]] w fun e w' => e = .returned (.tuple #[.agg #[.int .i64 0, .int .i64 0, .int .i64 0, .int .i64 0, .int .i64 0, .int .i64 0, .int .i64 0, .int .i64 0, .int .i64 0, .int .i64 0], .int .i64 d]) ∧ Below w.heap.size w w' := by
  have C1 := Lib.hid c1
  have hd2 : (d != 0) = true := by simpa using hd
  clear c1 hd
  obtain ⟨xa, xb, xc, xd, xe, xf, xg, xh, xi, xn⟩ := x
  obtain ⟨ya, yb, yc, yd, ye, yf, yg, yh, yi, yn⟩ := y
  simp only at *
  have j0 : ∀ (pa pb pc pd pe pf pg ph pi pn qa qb qc qd qe qf qg qh qi qn : Int) (w : World), (Instr.index 128 (.agg #[.int .i64 pa, .int .i64 pb, .int .i64 pc, .int .i64 pd, .int .i64 pe, .int .i64 pf, .int .i64 pg, .int .i64 ph, .int .i64 pi, .int .i64 pn, .int .i64 qa, .int .i64 qb, .int .i64 qc, .int .i64 qd, .int .i64 qe, .int .i64 qf, .int .i64 qg, .int .i64 qh, .int .i64 qi, .int .i64 qn]) (.int .i64 0)).run Try.prog w = .ok (.agg #[.int .i64 pa, .int .i64 pb, .int .i64 pc, .int .i64 pd, .int .i64 pe, .int .i64 pf, .int .i64 pg, .int .i64 ph, .int .i64 pi, .int .i64 pn]) w := fun _ _ _ _ _ _ _ _ _ _ _ _ _ _ _ _ _ _ _ _ _ => by kernel_rfl
  have j1 : ∀ (pa pb pc pd pe pf pg ph pi pn qa qb qc qd qe qf qg qh qi qn : Int) (w : World), (Instr.index 128 (.agg #[.int .i64 pa, .int .i64 pb, .int .i64 pc, .int .i64 pd, .int .i64 pe, .int .i64 pf, .int .i64 pg, .int .i64 ph, .int .i64 pi, .int .i64 pn, .int .i64 qa, .int .i64 qb, .int .i64 qc, .int .i64 qd, .int .i64 qe, .int .i64 qf, .int .i64 qg, .int .i64 qh, .int .i64 qi, .int .i64 qn]) (.int .i64 1)).run Try.prog w = .ok (.agg #[.int .i64 qa, .int .i64 qb, .int .i64 qc, .int .i64 qd, .int .i64 qe, .int .i64 qf, .int .i64 qg, .int .i64 qh, .int .i64 qi, .int .i64 qn]) w := fun _ _ _ _ _ _ _ _ _ _ _ _ _ _ _ _ _ _ _ _ _ => by kernel_rfl
  go_enter Try.func53, Try.ntmps53
  go_wp2_with fail
  refine wp_loop_rounds 3 ?_
  rw [rounds_succ]
  go_wp2_with (first | (go_at_call 49; with_reducible refine (C1.out _).mono ?_; rintro e w1 ⟨rfl, hb1⟩; obtain ⟨g1, rfl⟩ := more_of_below hb1; clear hb1))
  refine bodyPost_ret (v := .tuple #[.agg #[.int .i64 0, .int .i64 0, .int .i64 0, .int .i64 0, .int .i64 0, .int .i64 0, .int .i64 0, .int .i64 0, .int .i64 0, .int .i64 0], .int .i64 d]) (by simp [results, Try.results53, go_sem]) rfl ⟨rfl, by (repeat (first | with_reducible assumption | with_reducible exact Below.refl _ _ | with_reducible refine Below.drewN ?_ _ | with_reducible refine Below.drew ?_ | with_reducible refine Below.alloc ?_ (by first | omega | (simp; done) | (simp; omega)) _ | with_reducible refine Below.setCell ?_ (by first | omega | (simp; done) | (simp; omega)) _ | with_reducible refine below_more _ _ ?_ (by first | omega | (simp; done) | (simp; omega))))⟩
set_option maxRecDepth 100000 in
set_option maxHeartbeats 8000000 in
theorem pcompose_err2 (x y : Rt) (d : Int) (hd : d ≠ 0)
    (c1 : ∀ w, Calls Try.prog 49 #[.agg #[.int .i64 x.a, .int .i64 x.b, .int .i64 x.c, .int .i64 x.d, .int .i64 x.e, .int .i64 x.f, .int .i64 x.g, .int .i64 x.h, .int .i64 x.i, .int .i64 x.n]] w fun e w' => e = .returned (.int .i64 0) ∧ Below w.heap.size w w')
    (c2 : ∀ w, Calls Try.prog 49 #[.agg #[.int .i64 y.a, .int .i64 y.b, .int .i64 y.c, .int .i64 y.d, .int .i64 y.e, .int .i64 y.f, .int .i64 y.g, .int .i64 y.h, .int .i64 y.i, .int .i64 y.n]] w fun e w' => e = .returned (.int .i64 d) ∧ Below w.heap.size w w') (w : World) :
    Calls Try.prog 53 #[.agg #[.int .i64 x.a, .int .i64 x.b, .int .i64 x.c, .int .i64 x.d, .int .i64 x.e, .int .i64 x.f, .int .i64 x.g, .int .i64 x.h, .int .i64 x.i, .int .i64 x.n], .agg #[.int .i64 y.a, .int .i64 y.b, .int .i64 y.c, .int .i64 y.d, .int .i64 y.e, .int .i64 y.f, .int .i64 y.g, .int .i64 y.h, .int .i64 y.i, .int .i64 y.n]] w fun e w' => e = .returned (.tuple #[.agg #[.int .i64 0, .int .i64 0, .int .i64 0, .int .i64 0, .int .i64 0, .int .i64 0, .int .i64 0, .int .i64 0, .int .i64 0, .int .i64 0], .int .i64 d]) ∧ Below w.heap.size w w' := by
  have C1 := Lib.hid c1; have C2 := Lib.hid c2
  have hd2 : (d != 0) = true := by simpa using hd
  clear c1 c2 hd
  obtain ⟨xa, xb, xc, xd, xe, xf, xg, xh, xi, xn⟩ := x
  obtain ⟨ya, yb, yc, yd, ye, yf, yg, yh, yi, yn⟩ := y
  simp only at *
  have j0 : ∀ (pa pb pc pd pe pf pg ph pi pn qa qb qc qd qe qf qg qh qi qn : Int) (w : World), (Instr.index 128 (.agg #[.int .i64 pa, .int .i64 pb, .int .i64 pc, .int .i64 pd, .int .i64 pe, .int .i64 pf, .int .i64 pg, .int .i64 ph, .int .i64 pi, .int .i64 pn, .int .i64 qa, .int .i64 qb, .int .i64 qc, .int .i64 qd, .int .i64 qe, .int .i64 qf, .int .i64 qg, .int .i64 qh, .int .i64 qi, .int .i64 qn]) (.int .i64 0)).run Try.prog w = .ok (.agg #[.int .i64 pa, .int .i64 pb, .int .i64 pc, .int .i64 pd, .int .i64 pe, .int .i64 pf, .int .i64 pg, .int .i64 ph, .int .i64 pi, .int .i64 pn]) w := fun _ _ _ _ _ _ _ _ _ _ _ _ _ _ _ _ _ _ _ _ _ => by kernel_rfl
  have j1 : ∀ (pa pb pc pd pe pf pg ph pi pn qa qb qc qd qe qf qg qh qi qn : Int) (w : World), (Instr.index 128 (.agg #[.int .i64 pa, .int .i64 pb, .int .i64 pc, .int .i64 pd, .int .i64 pe, .int .i64 pf, .int .i64 pg, .int .i64 ph, .int .i64 pi, .int .i64 pn, .int .i64 qa, .int .i64 qb, .int .i64 qc, .int .i64 qd, .int .i64 qe, .int .i64 qf, .int .i64 qg, .int .i64 qh, .int .i64 qi, .int .i64 qn]) (.int .i64 1)).run Try.prog w = .ok (.agg #[.int .i64 qa, .int .i64 qb, .int .i64 qc, .int .i64 qd, .int .i64 qe, .int .i64 qf, .int .i64 qg, .int .i64 qh, .int .i64 qi, .int .i64 qn]) w := fun _ _ _ _ _ _ _ _ _ _ _ _ _ _ _ _ _ _ _ _ _ => by kernel_rfl
  go_enter Try.func53, Try.ntmps53
  go_wp2_with fail
  refine wp_loop_rounds 3 ?_
  rw [rounds_succ]
  go_wp2_with (first | (go_at_call 49; with_reducible refine (C1.out _).mono ?_; rintro e w1 ⟨rfl, hb1⟩; obtain ⟨g1, rfl⟩ := more_of_below hb1; clear hb1))
  rw [rounds_succ]
  go_wp2_with (first | (go_at_call 49; with_reducible refine (C2.out _).mono ?_; rintro e w2 ⟨rfl, hb2⟩; obtain ⟨g2, rfl⟩ := more_of_below hb2; clear hb2))
  refine bodyPost_ret (v := .tuple #[.agg #[.int .i64 0, .int .i64 0, .int .i64 0, .int .i64 0, .int .i64 0, .int .i64 0, .int .i64 0, .int .i64 0, .int .i64 0, .int .i64 0], .int .i64 d]) (by simp [results, Try.results53, go_sem]) rfl ⟨rfl, by (repeat (first | with_reducible assumption | with_reducible exact Below.refl _ _ | with_reducible refine Below.drewN ?_ _ | with_reducible refine Below.drew ?_ | with_reducible refine Below.alloc ?_ (by first | omega | (simp; done) | (simp; omega)) _ | with_reducible refine Below.setCell ?_ (by first | omega | (simp; done) | (simp; omega)) _ | with_reducible refine below_more _ _ ?_ (by first | omega | (simp; done) | (simp; omega))))⟩
attribute [local go_sem] more_more
set_option maxRecDepth 100000 in
set_option maxHeartbeats 16000000 in
theorem pcompose_walk (x y : Rt) (hx : x.Rng) (hy : y.Rng) (ra rb rc rd re rf rg rh ri rn z : Int)
    (c1 : ∀ w, Calls Try.prog 49 #[.agg #[.int .i64 x.a, .int .i64 x.b, .int .i64 x.c, .int .i64 x.d, .int .i64 x.e, .int .i64 x.f, .int .i64 x.g, .int .i64 x.h, .int .i64 x.i, .int .i64 x.n]] w fun e w' => e = .returned (.int .i64 0) ∧ Below w.heap.size w w')
    (c2 : ∀ w, Calls Try.prog 49 #[.agg #[.int .i64 y.a, .int .i64 y.b, .int .i64 y.c, .int .i64 y.d, .int .i64 y.e, .int .i64 y.f, .int .i64 y.g, .int .i64 y.h, .int .i64 y.i, .int .i64 y.n]] w fun e w' => e = .returned (.int .i64 0) ∧ Below w.heap.size w w')
    (hl : ∀ w, Calls Try.prog 101 #[.agg #[.int .i64 (x.a * y.a + x.b * y.d + x.c * y.g), .int .i64 (x.a * y.b + x.b * y.e + x.c * y.h), .int .i64 (x.a * y.c + x.b * y.f + x.c * y.i), .int .i64 (x.d * y.a + x.e * y.d + x.f * y.g), .int .i64 (x.d * y.b + x.e * y.e + x.f * y.h), .int .i64 (x.d * y.c + x.e * y.f + x.f * y.i), .int .i64 (x.g * y.a + x.h * y.d + x.i * y.g), .int .i64 (x.g * y.b + x.h * y.e + x.i * y.h), .int .i64 (x.g * y.c + x.h * y.f + x.i * y.i)], .int .i64 (x.n * y.n)] w fun e w' => e = .returned (.tuple #[.agg #[.int .i64 ra, .int .i64 rb, .int .i64 rc, .int .i64 rd, .int .i64 re, .int .i64 rf, .int .i64 rg, .int .i64 rh, .int .i64 ri, .int .i64 rn], .int .i64 z]) ∧ Below w.heap.size w w') (w : World) :
    Calls Try.prog 53 #[.agg #[.int .i64 x.a, .int .i64 x.b, .int .i64 x.c, .int .i64 x.d, .int .i64 x.e, .int .i64 x.f, .int .i64 x.g, .int .i64 x.h, .int .i64 x.i, .int .i64 x.n], .agg #[.int .i64 y.a, .int .i64 y.b, .int .i64 y.c, .int .i64 y.d, .int .i64 y.e, .int .i64 y.f, .int .i64 y.g, .int .i64 y.h, .int .i64 y.i, .int .i64 y.n]] w fun e w' => e = .returned (.tuple #[.agg #[.int .i64 ra, .int .i64 rb, .int .i64 rc, .int .i64 rd, .int .i64 re, .int .i64 rf, .int .i64 rg, .int .i64 rh, .int .i64 ri, .int .i64 rn], .int .i64 z]) ∧ Below w.heap.size w w' := by
  have C1 := Lib.hid c1; have C2 := Lib.hid c2; have HL := Lib.hid hl
  clear c1 c2 hl
  obtain ⟨⟨n0, n1⟩, xa, xb, xc, xd, xe, xf, xg, xh, xi⟩ := hx
  obtain ⟨⟨m0, m1⟩, ya, yb, yc, yd, ye, yf, yg, yh, yi⟩ := hy
  have XR := Lib.hid (show 0 ≤ x.n ∧ x.n ≤ 1000000 by omega); have YR := Lib.hid (show 0 ≤ y.n ∧ y.n ≤ 1000000 by omega)
  have Xa := Lib.hid xa; have Ya := Lib.hid ya
  have Xb := Lib.hid xb; have Yb := Lib.hid yb
  have Xc := Lib.hid xc; have Yc := Lib.hid yc
  have Xd := Lib.hid xd; have Yd := Lib.hid yd
  have Xe := Lib.hid xe; have Ye := Lib.hid ye
  have Xf := Lib.hid xf; have Yf := Lib.hid yf
  have Xg := Lib.hid xg; have Yg := Lib.hid yg
  have Xh := Lib.hid xh; have Yh := Lib.hid yh
  have Xi := Lib.hid xi; have Yi := Lib.hid yi
  clear xa ya xb yb xc yc xd yd xe ye xf yf xg yg xh yh xi yi
  obtain ⟨xa, xb, xc, xd, xe, xf, xg, xh, xi, xn⟩ := x
  obtain ⟨ya, yb, yc, yd, ye, yf, yg, yh, yi, yn⟩ := y
  simp only at *
  have j0 : ∀ (pa pb pc pd pe pf pg ph pi pn qa qb qc qd qe qf qg qh qi qn : Int) (w : World), (Instr.index 128 (.agg #[.int .i64 pa, .int .i64 pb, .int .i64 pc, .int .i64 pd, .int .i64 pe, .int .i64 pf, .int .i64 pg, .int .i64 ph, .int .i64 pi, .int .i64 pn, .int .i64 qa, .int .i64 qb, .int .i64 qc, .int .i64 qd, .int .i64 qe, .int .i64 qf, .int .i64 qg, .int .i64 qh, .int .i64 qi, .int .i64 qn]) (.int .i64 0)).run Try.prog w = .ok (.agg #[.int .i64 pa, .int .i64 pb, .int .i64 pc, .int .i64 pd, .int .i64 pe, .int .i64 pf, .int .i64 pg, .int .i64 ph, .int .i64 pi, .int .i64 pn]) w := fun _ _ _ _ _ _ _ _ _ _ _ _ _ _ _ _ _ _ _ _ _ => by kernel_rfl
  have j1 : ∀ (pa pb pc pd pe pf pg ph pi pn qa qb qc qd qe qf qg qh qi qn : Int) (w : World), (Instr.index 128 (.agg #[.int .i64 pa, .int .i64 pb, .int .i64 pc, .int .i64 pd, .int .i64 pe, .int .i64 pf, .int .i64 pg, .int .i64 ph, .int .i64 pi, .int .i64 pn, .int .i64 qa, .int .i64 qb, .int .i64 qc, .int .i64 qd, .int .i64 qe, .int .i64 qf, .int .i64 qg, .int .i64 qh, .int .i64 qi, .int .i64 qn]) (.int .i64 1)).run Try.prog w = .ok (.agg #[.int .i64 qa, .int .i64 qb, .int .i64 qc, .int .i64 qd, .int .i64 qe, .int .i64 qf, .int .i64 qg, .int .i64 qh, .int .i64 qi, .int .i64 qn]) w := fun _ _ _ _ _ _ _ _ _ _ _ _ _ _ _ _ _ _ _ _ _ => by kernel_rfl
  go_enter Try.func53, Try.ntmps53
  go_wp2_with fail
  refine wp_loop_rounds 3 ?_
  rw [rounds_succ]
  go_wp2_with (first | (go_at_call 49; with_reducible refine (C1.out _).mono ?_; rintro e w1 ⟨rfl, hb1⟩; obtain ⟨g1, rfl⟩ := more_of_below hb1; clear hb1))
  rw [rounds_succ]
  go_wp2_with (first | (go_at_call 49; with_reducible refine (C2.out _).mono ?_; rintro e w2 ⟨rfl, hb2⟩; obtain ⟨g2, rfl⟩ := more_of_below hb2; clear hb2))
  rw [rounds_succ]
  go_wp2_with fail
  clear j0 j1 C1 C2
  refine wp_loop_rounds 4 ?_
  rw [rounds_succ]
  go_wp2_with fail
  refine wp_loop_rounds 4 ?_
  obtain ⟨u0, v0⟩ := mul_bd2 XR.out YR.out Xa.out Ya.out
  obtain ⟨u1, v1⟩ := mul_bd2 XR.out YR.out Xb.out Yd.out
  obtain ⟨u2, v2⟩ := mul_bd2 XR.out YR.out Xc.out Yg.out
  rw [rounds_succ]
  go_wp2_with fail
  refine wp_loop_rounds 4 ?_
  iterate 3 (rw [rounds_succ]; go_wp2_with fail; (refine wp_region_calm_tail 21 (Ext _) (by kernel_rfl) (by kernel_rfl) (Ext.start _) ?_; simp only [List.take_succ_cons, List.take_zero, List.drop_succ_cons, List.drop_zero]; (repeat (refine wpQuiet_step (fun K hK => ?_); go_simp; (try go_bits); apply Exists.intro; refine ⟨fun w' hw' => ?_, hK _ ?_⟩; (focus (first | with_reducible exact rfl | (obtain ⟨gx, rfl⟩ := more_of_below (Ext.below hw'); go_simp; exact rfl))); clear hK K)); refine wpQuiet_nil ?_; intro w3 hw3; have hb3 := Ext.below hw3; clear hw3; obtain ⟨g3, rfl⟩ := more_of_below hb3; clear hb3); go_wp2_with fail)
  rw [rounds_succ]
  go_wp2_with fail
  clear u0 v0 u1 v1 u2 v2
  obtain ⟨u0, v0⟩ := mul_bd2 XR.out YR.out Xa.out Yb.out
  obtain ⟨u1, v1⟩ := mul_bd2 XR.out YR.out Xb.out Ye.out
  obtain ⟨u2, v2⟩ := mul_bd2 XR.out YR.out Xc.out Yh.out
  rw [rounds_succ]
  go_wp2_with fail
  refine wp_loop_rounds 4 ?_
  iterate 3 (rw [rounds_succ]; go_wp2_with fail; (refine wp_region_calm_tail 21 (Ext _) (by kernel_rfl) (by kernel_rfl) (Ext.start _) ?_; simp only [List.take_succ_cons, List.take_zero, List.drop_succ_cons, List.drop_zero]; (repeat (refine wpQuiet_step (fun K hK => ?_); go_simp; (try go_bits); apply Exists.intro; refine ⟨fun w' hw' => ?_, hK _ ?_⟩; (focus (first | with_reducible exact rfl | (obtain ⟨gx, rfl⟩ := more_of_below (Ext.below hw'); go_simp; exact rfl))); clear hK K)); refine wpQuiet_nil ?_; intro w3 hw3; have hb3 := Ext.below hw3; clear hw3; obtain ⟨g3, rfl⟩ := more_of_below hb3; clear hb3); go_wp2_with fail)
  rw [rounds_succ]
  go_wp2_with fail
  clear u0 v0 u1 v1 u2 v2
  obtain ⟨u0, v0⟩ := mul_bd2 XR.out YR.out Xa.out Yc.out
  obtain ⟨u1, v1⟩ := mul_bd2 XR.out YR.out Xb.out Yf.out
  obtain ⟨u2, v2⟩ := mul_bd2 XR.out YR.out Xc.out Yi.out
  rw [rounds_succ]
  go_wp2_with fail
  refine wp_loop_rounds 4 ?_
  iterate 3 (rw [rounds_succ]; go_wp2_with fail; (refine wp_region_calm_tail 21 (Ext _) (by kernel_rfl) (by kernel_rfl) (Ext.start _) ?_; simp only [List.take_succ_cons, List.take_zero, List.drop_succ_cons, List.drop_zero]; (repeat (refine wpQuiet_step (fun K hK => ?_); go_simp; (try go_bits); apply Exists.intro; refine ⟨fun w' hw' => ?_, hK _ ?_⟩; (focus (first | with_reducible exact rfl | (obtain ⟨gx, rfl⟩ := more_of_below (Ext.below hw'); go_simp; exact rfl))); clear hK K)); refine wpQuiet_nil ?_; intro w3 hw3; have hb3 := Ext.below hw3; clear hw3; obtain ⟨g3, rfl⟩ := more_of_below hb3; clear hb3); go_wp2_with fail)
  rw [rounds_succ]
  go_wp2_with fail
  clear u0 v0 u1 v1 u2 v2
  rw [rounds_succ]
  go_wp2_with fail
  rw [rounds_succ]
  go_wp2_with fail
  refine wp_loop_rounds 4 ?_
  obtain ⟨u0, v0⟩ := mul_bd2 XR.out YR.out Xd.out Ya.out
  obtain ⟨u1, v1⟩ := mul_bd2 XR.out YR.out Xe.out Yd.out
  obtain ⟨u2, v2⟩ := mul_bd2 XR.out YR.out Xf.out Yg.out
  rw [rounds_succ]
  go_wp2_with fail
  refine wp_loop_rounds 4 ?_
  iterate 3 (rw [rounds_succ]; go_wp2_with fail; (refine wp_region_calm_tail 21 (Ext _) (by kernel_rfl) (by kernel_rfl) (Ext.start _) ?_; simp only [List.take_succ_cons, List.take_zero, List.drop_succ_cons, List.drop_zero]; (repeat (refine wpQuiet_step (fun K hK => ?_); go_simp; (try go_bits); apply Exists.intro; refine ⟨fun w' hw' => ?_, hK _ ?_⟩; (focus (first | with_reducible exact rfl | (obtain ⟨gx, rfl⟩ := more_of_below (Ext.below hw'); go_simp; exact rfl))); clear hK K)); refine wpQuiet_nil ?_; intro w3 hw3; have hb3 := Ext.below hw3; clear hw3; obtain ⟨g3, rfl⟩ := more_of_below hb3; clear hb3); go_wp2_with fail)
  rw [rounds_succ]
  go_wp2_with fail
  clear u0 v0 u1 v1 u2 v2
  obtain ⟨u0, v0⟩ := mul_bd2 XR.out YR.out Xd.out Yb.out
  obtain ⟨u1, v1⟩ := mul_bd2 XR.out YR.out Xe.out Ye.out
  obtain ⟨u2, v2⟩ := mul_bd2 XR.out YR.out Xf.out Yh.out
  rw [rounds_succ]
  go_wp2_with fail
  refine wp_loop_rounds 4 ?_
  iterate 3 (rw [rounds_succ]; go_wp2_with fail; (refine wp_region_calm_tail 21 (Ext _) (by kernel_rfl) (by kernel_rfl) (Ext.start _) ?_; simp only [List.take_succ_cons, List.take_zero, List.drop_succ_cons, List.drop_zero]; (repeat (refine wpQuiet_step (fun K hK => ?_); go_simp; (try go_bits); apply Exists.intro; refine ⟨fun w' hw' => ?_, hK _ ?_⟩; (focus (first | with_reducible exact rfl | (obtain ⟨gx, rfl⟩ := more_of_below (Ext.below hw'); go_simp; exact rfl))); clear hK K)); refine wpQuiet_nil ?_; intro w3 hw3; have hb3 := Ext.below hw3; clear hw3; obtain ⟨g3, rfl⟩ := more_of_below hb3; clear hb3); go_wp2_with fail)
  rw [rounds_succ]
  go_wp2_with fail
  clear u0 v0 u1 v1 u2 v2
  obtain ⟨u0, v0⟩ := mul_bd2 XR.out YR.out Xd.out Yc.out
  obtain ⟨u1, v1⟩ := mul_bd2 XR.out YR.out Xe.out Yf.out
  obtain ⟨u2, v2⟩ := mul_bd2 XR.out YR.out Xf.out Yi.out
  rw [rounds_succ]
  go_wp2_with fail
  refine wp_loop_rounds 4 ?_
  iterate 3 (rw [rounds_succ]; go_wp2_with fail; (refine wp_region_calm_tail 21 (Ext _) (by kernel_rfl) (by kernel_rfl) (Ext.start _) ?_; simp only [List.take_succ_cons, List.take_zero, List.drop_succ_cons, List.drop_zero]; (repeat (refine wpQuiet_step (fun K hK => ?_); go_simp; (try go_bits); apply Exists.intro; refine ⟨fun w' hw' => ?_, hK _ ?_⟩; (focus (first | with_reducible exact rfl | (obtain ⟨gx, rfl⟩ := more_of_below (Ext.below hw'); go_simp; exact rfl))); clear hK K)); refine wpQuiet_nil ?_; intro w3 hw3; have hb3 := Ext.below hw3; clear hw3; obtain ⟨g3, rfl⟩ := more_of_below hb3; clear hb3); go_wp2_with fail)
  rw [rounds_succ]
  go_wp2_with fail
  clear u0 v0 u1 v1 u2 v2
  rw [rounds_succ]
  go_wp2_with fail
  rw [rounds_succ]
  go_wp2_with fail
  refine wp_loop_rounds 4 ?_
  obtain ⟨u0, v0⟩ := mul_bd2 XR.out YR.out Xg.out Ya.out
  obtain ⟨u1, v1⟩ := mul_bd2 XR.out YR.out Xh.out Yd.out
  obtain ⟨u2, v2⟩ := mul_bd2 XR.out YR.out Xi.out Yg.out
  rw [rounds_succ]
  go_wp2_with fail
  refine wp_loop_rounds 4 ?_
  iterate 3 (rw [rounds_succ]; go_wp2_with fail; (refine wp_region_calm_tail 21 (Ext _) (by kernel_rfl) (by kernel_rfl) (Ext.start _) ?_; simp only [List.take_succ_cons, List.take_zero, List.drop_succ_cons, List.drop_zero]; (repeat (refine wpQuiet_step (fun K hK => ?_); go_simp; (try go_bits); apply Exists.intro; refine ⟨fun w' hw' => ?_, hK _ ?_⟩; (focus (first | with_reducible exact rfl | (obtain ⟨gx, rfl⟩ := more_of_below (Ext.below hw'); go_simp; exact rfl))); clear hK K)); refine wpQuiet_nil ?_; intro w3 hw3; have hb3 := Ext.below hw3; clear hw3; obtain ⟨g3, rfl⟩ := more_of_below hb3; clear hb3); go_wp2_with fail)
  rw [rounds_succ]
  go_wp2_with fail
  clear u0 v0 u1 v1 u2 v2
  obtain ⟨u0, v0⟩ := mul_bd2 XR.out YR.out Xg.out Yb.out
  obtain ⟨u1, v1⟩ := mul_bd2 XR.out YR.out Xh.out Ye.out
  obtain ⟨u2, v2⟩ := mul_bd2 XR.out YR.out Xi.out Yh.out
  rw [rounds_succ]
  go_wp2_with fail
  refine wp_loop_rounds 4 ?_
  iterate 3 (rw [rounds_succ]; go_wp2_with fail; (refine wp_region_calm_tail 21 (Ext _) (by kernel_rfl) (by kernel_rfl) (Ext.start _) ?_; simp only [List.take_succ_cons, List.take_zero, List.drop_succ_cons, List.drop_zero]; (repeat (refine wpQuiet_step (fun K hK => ?_); go_simp; (try go_bits); apply Exists.intro; refine ⟨fun w' hw' => ?_, hK _ ?_⟩; (focus (first | with_reducible exact rfl | (obtain ⟨gx, rfl⟩ := more_of_below (Ext.below hw'); go_simp; exact rfl))); clear hK K)); refine wpQuiet_nil ?_; intro w3 hw3; have hb3 := Ext.below hw3; clear hw3; obtain ⟨g3, rfl⟩ := more_of_below hb3; clear hb3); go_wp2_with fail)
  rw [rounds_succ]
  go_wp2_with fail
  clear u0 v0 u1 v1 u2 v2
  obtain ⟨u0, v0⟩ := mul_bd2 XR.out YR.out Xg.out Yc.out
  obtain ⟨u1, v1⟩ := mul_bd2 XR.out YR.out Xh.out Yf.out
  obtain ⟨u2, v2⟩ := mul_bd2 XR.out YR.out Xi.out Yi.out
  rw [rounds_succ]
  go_wp2_with fail
  refine wp_loop_rounds 4 ?_
  iterate 3 (rw [rounds_succ]; go_wp2_with fail; (refine wp_region_calm_tail 21 (Ext _) (by kernel_rfl) (by kernel_rfl) (Ext.start _) ?_; simp only [List.take_succ_cons, List.take_zero, List.drop_succ_cons, List.drop_zero]; (repeat (refine wpQuiet_step (fun K hK => ?_); go_simp; (try go_bits); apply Exists.intro; refine ⟨fun w' hw' => ?_, hK _ ?_⟩; (focus (first | with_reducible exact rfl | (obtain ⟨gx, rfl⟩ := more_of_below (Ext.below hw'); go_simp; exact rfl))); clear hK K)); refine wpQuiet_nil ?_; intro w3 hw3; have hb3 := Ext.below hw3; clear hw3; obtain ⟨g3, rfl⟩ := more_of_below hb3; clear hb3); go_wp2_with fail)
  rw [rounds_succ]
  go_wp2_with fail
  clear u0 v0 u1 v1 u2 v2
  rw [rounds_succ]
  go_wp2_with fail
  obtain ⟨un, vn⟩ := mul_bd2 XR.out YR.out ⟨by omega, Int.le_refl _⟩ ⟨by omega, Int.le_refl _⟩
  rw [rounds_succ]
  go_wp2_with (first | (go_at_call 101; with_reducible refine (HL.out _).mono ?_; rintro e w4 ⟨rfl, hb4⟩; obtain ⟨g4, rfl⟩ := more_of_below hb4; clear hb4))
  refine bodyPost_ret (v := .tuple #[.agg #[.int .i64 ra, .int .i64 rb, .int .i64 rc, .int .i64 rd, .int .i64 re, .int .i64 rf, .int .i64 rg, .int .i64 rh, .int .i64 ri, .int .i64 rn], .int .i64 z]) (by simp [results, Try.results53, go_sem]) rfl ⟨rfl, by (repeat (first | with_reducible assumption | with_reducible exact Below.refl _ _ | with_reducible refine Below.drewN ?_ _ | with_reducible refine Below.drew ?_ | with_reducible refine Below.alloc ?_ (by first | omega | (simp; done) | (simp; omega)) _ | with_reducible refine Below.setCell ?_ (by first | omega | (simp; done) | (simp; omega)) _ | with_reducible refine below_more _ _ ?_ (by first | omega | (simp; done) | (simp; omega))))⟩
end Go.Proofs.Ythajaabgcbjfkaa
