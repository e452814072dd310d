/- Contracts: Compose of the reference. -/
import Derived.Test.YthajaabgcbjfkaaT9a
namespace Go.Proofs.Ythajaabgcbjfkaa
open Go.RowKit

attribute [local go_sem] more_more
set_option maxRecDepth 100000 in
set_option maxHeartbeats 16000000 in
theorem rcompose_walk (x y : Rt) (hx : x.Rng) (hy : y.Rng) (ra rb rc rd re rf rg rh ri rn : Int)
    (hl : ∀ w, Calls Try.prog 100 #[.agg #[.int .i64 (x.a * y.a + x.b * y.d + x.c * y.g), .int .i64 (x.a * y.b + x.b * y.e + x.c * y.h), .int .i64 (x.a * y.c + x.b * y.f + x.c * y.i), .int .i64 (x.d * y.a + x.e * y.d + x.f * y.g), .int .i64 (x.d * y.b + x.e * y.e + x.f * y.h), .int .i64 (x.d * y.c + x.e * y.f + x.f * y.i), .int .i64 (x.g * y.a + x.h * y.d + x.i * y.g), .int .i64 (x.g * y.b + x.h * y.e + x.i * y.h), .int .i64 (x.g * y.c + x.h * y.f + x.i * y.i), .int .i64 (x.n * y.n)]] w fun e w' => e = .returned (.agg #[.int .i64 ra, .int .i64 rb, .int .i64 rc, .int .i64 rd, .int .i64 re, .int .i64 rf, .int .i64 rg, .int .i64 rh, .int .i64 ri, .int .i64 rn]) ∧ Below w.heap.size w w') (w : World) :
    Calls Try.prog 90 #[.agg #[.int .i64 x.a, .int .i64 x.b, .int .i64 x.c, .int .i64 x.d, .int .i64 x.e, .int .i64 x.f, .int .i64 x.g, .int .i64 x.h, .int .i64 x.i, .int .i64 x.n], .agg #[.int .i64 y.a, .int .i64 y.b, .int .i64 y.c, .int .i64 y.d, .int .i64 y.e, .int .i64 y.f, .int .i64 y.g, .int .i64 y.h, .int .i64 y.i, .int .i64 y.n]] w fun e w' => e = .returned (.agg #[.int .i64 ra, .int .i64 rb, .int .i64 rc, .int .i64 rd, .int .i64 re, .int .i64 rf, .int .i64 rg, .int .i64 rh, .int .i64 ri, .int .i64 rn]) ∧ Below w.heap.size w w' := by
  have HL := Lib.hid hl
  clear hl
  obtain ⟨⟨n0, n1⟩, xa, xb, xc, xd, xe, xf, xg, xh, xi⟩ := hx
  obtain ⟨⟨m0, m1⟩, ya, yb, yc, yd, ye, yf, yg, yh, yi⟩ := hy
  have XR := Lib.hid (show 0 ≤ x.n ∧ x.n ≤ 1000000 by omega); have YR := Lib.hid (show 0 ≤ y.n ∧ y.n ≤ 1000000 by omega)
  have Xa := Lib.hid xa; have Ya := Lib.hid ya
  have Xb := Lib.hid xb; have Yb := Lib.hid yb
  have Xc := Lib.hid xc; have Yc := Lib.hid yc
  have Xd := Lib.hid xd; have Yd := Lib.hid yd
  have Xe := Lib.hid xe; have Ye := Lib.hid ye
  have Xf := Lib.hid xf; have Yf := Lib.hid yf
  have Xg := Lib.hid xg; have Yg := Lib.hid yg
  have Xh := Lib.hid xh; have Yh := Lib.hid yh
  have Xi := Lib.hid xi; have Yi := Lib.hid yi
  clear xa ya xb yb xc yc xd yd xe ye xf yf xg yg xh yh xi yi
  obtain ⟨xa, xb, xc, xd, xe, xf, xg, xh, xi, xn⟩ := x
  obtain ⟨ya, yb, yc, yd, ye, yf, yg, yh, yi, yn⟩ := y
  simp only at *
  obtain ⟨un, vn⟩ := mul_bd2 XR.out YR.out ⟨by omega, Int.le_refl _⟩ ⟨by omega, Int.le_refl _⟩
  go_enter Try.func90, Try.ntmps90
  go_wp2_with fail
  refine wp_loop_rounds 4 ?_
  rw [rounds_succ]
  go_wp2_with fail
  refine wp_loop_rounds 4 ?_
  obtain ⟨u0, v0⟩ := mul_bd2 XR.out YR.out Xa.out Ya.out
  obtain ⟨u1, v1⟩ := mul_bd2 XR.out YR.out Xb.out Yd.out
  obtain ⟨u2, v2⟩ := mul_bd2 XR.out YR.out Xc.out Yg.out
  rw [rounds_succ]
  go_wp2_with fail
  refine wp_loop_rounds 4 ?_
  iterate 3 (rw [rounds_succ]; go_wp2_with fail; (refine wp_region_calm_tail 25 (Ext _) (by kernel_rfl) (by kernel_rfl) (Ext.start _) ?_; simp only [List.take_succ_cons, List.take_zero, List.drop_succ_cons, List.drop_zero]; (repeat (refine wpQuiet_step (fun K hK => ?_); go_simp; (try go_bits); apply Exists.intro; refine ⟨fun w' hw' => ?_, hK _ ?_⟩; (focus (first | with_reducible exact rfl | (obtain ⟨gx, rfl⟩ := more_of_below (Ext.below hw'); go_simp; exact rfl))); clear hK K)); refine wpQuiet_nil ?_; intro w3 hw3; have hb3 := Ext.below hw3; clear hw3; obtain ⟨g3, rfl⟩ := more_of_below hb3; clear hb3); go_wp2_with fail)
  rw [rounds_succ]
  go_wp2_with fail
  clear u0 v0 u1 v1 u2 v2
  obtain ⟨u0, v0⟩ := mul_bd2 XR.out YR.out Xa.out Yb.out
  obtain ⟨u1, v1⟩ := mul_bd2 XR.out YR.out Xb.out Ye.out
  obtain ⟨u2, v2⟩ := mul_bd2 XR.out YR.out Xc.out Yh.out
  rw [rounds_succ]
  go_wp2_with fail
  refine wp_loop_rounds 4 ?_
  iterate 3 (rw [rounds_succ]; go_wp2_with fail; (refine wp_region_calm_tail 25 (Ext _) (by kernel_rfl) (by kernel_rfl) (Ext.start _) ?_; simp only [List.take_succ_cons, List.take_zero, List.drop_succ_cons, List.drop_zero]; (repeat (refine wpQuiet_step (fun K hK => ?_); go_simp; (try go_bits); apply Exists.intro; refine ⟨fun w' hw' => ?_, hK _ ?_⟩; (focus (first | with_reducible exact rfl | (obtain ⟨gx, rfl⟩ := more_of_below (Ext.below hw'); go_simp; exact rfl))); clear hK K)); refine wpQuiet_nil ?_; intro w3 hw3; have hb3 := Ext.below hw3; clear hw3; obtain ⟨g3, rfl⟩ := more_of_below hb3; clear hb3); go_wp2_with fail)
  rw [rounds_succ]
  go_wp2_with fail
  clear u0 v0 u1 v1 u2 v2
  obtain ⟨u0, v0⟩ := mul_bd2 XR.out YR.out Xa.out Yc.out
  obtain ⟨u1, v1⟩ := mul_bd2 XR.out YR.out Xb.out Yf.out
  obtain ⟨u2, v2⟩ := mul_bd2 XR.out YR.out Xc.out Yi.out
  rw [rounds_succ]
  go_wp2_with fail
  refine wp_loop_rounds 4 ?_
  iterate 3 (rw [rounds_succ]; go_wp2_with fail; (refine wp_region_calm_tail 25 (Ext _) (by kernel_rfl) (by kernel_rfl) (Ext.start _) ?_; simp only [List.take_succ_cons, List.take_zero, List.drop_succ_cons, List.drop_zero]; (repeat (refine wpQuiet_step (fun K hK => ?_); go_simp; (try go_bits); apply Exists.intro; refine ⟨fun w' hw' => ?_, hK _ ?_⟩; (focus (first | with_reducible exact rfl | (obtain ⟨gx, rfl⟩ := more_of_below (Ext.below hw'); go_simp; exact rfl))); clear hK K)); refine wpQuiet_nil ?_; intro w3 hw3; have hb3 := Ext.below hw3; clear hw3; obtain ⟨g3, rfl⟩ := more_of_below hb3; clear hb3); go_wp2_with fail)
  rw [rounds_succ]
  go_wp2_with fail
  clear u0 v0 u1 v1 u2 v2
  rw [rounds_succ]
  go_wp2_with fail
  rw [rounds_succ]
  go_wp2_with fail
  refine wp_loop_rounds 4 ?_
  obtain ⟨u0, v0⟩ := mul_bd2 XR.out YR.out Xd.out Ya.out
  obtain ⟨u1, v1⟩ := mul_bd2 XR.out YR.out Xe.out Yd.out
  obtain ⟨u2, v2⟩ := mul_bd2 XR.out YR.out Xf.out Yg.out
  rw [rounds_succ]
  go_wp2_with fail
  refine wp_loop_rounds 4 ?_
  iterate 3 (rw [rounds_succ]; go_wp2_with fail; (refine wp_region_calm_tail 25 (Ext _) (by kernel_rfl) (by kernel_rfl) (Ext.start _) ?_; simp only [List.take_succ_cons, List.take_zero, List.drop_succ_cons, List.drop_zero]; (repeat (refine wpQuiet_step (fun K hK => ?_); go_simp; (try go_bits); apply Exists.intro; refine ⟨fun w' hw' => ?_, hK _ ?_⟩; (focus (first | with_reducible exact rfl | (obtain ⟨gx, rfl⟩ := more_of_below (Ext.below hw'); go_simp; exact rfl))); clear hK K)); refine wpQuiet_nil ?_; intro w3 hw3; have hb3 := Ext.below hw3; clear hw3; obtain ⟨g3, rfl⟩ := more_of_below hb3; clear hb3); go_wp2_with fail)
  rw [rounds_succ]
  go_wp2_with fail
  clear u0 v0 u1 v1 u2 v2
  obtain ⟨u0, v0⟩ := mul_bd2 XR.out YR.out Xd.out Yb.out
  obtain ⟨u1, v1⟩ := mul_bd2 XR.out YR.out Xe.out Ye.out
  obtain ⟨u2, v2⟩ := mul_bd2 XR.out YR.out Xf.out Yh.out
  rw [rounds_succ]
  go_wp2_with fail
  refine wp_loop_rounds 4 ?_
  iterate 3 (rw [rounds_succ]; go_wp2_with fail; (refine wp_region_calm_tail 25 (Ext _) (by kernel_rfl) (by kernel_rfl) (Ext.start _) ?_; simp only [List.take_succ_cons, List.take_zero, List.drop_succ_cons, List.drop_zero]; (repeat (refine wpQuiet_step (fun K hK => ?_); go_simp; (try go_bits); apply Exists.intro; refine ⟨fun w' hw' => ?_, hK _ ?_⟩; (focus (first | with_reducible exact rfl | (obtain ⟨gx, rfl⟩ := more_of_below (Ext.below hw'); go_simp; exact rfl))); clear hK K)); refine wpQuiet_nil ?_; intro w3 hw3; have hb3 := Ext.below hw3; clear hw3; obtain ⟨g3, rfl⟩ := more_of_below hb3; clear hb3); go_wp2_with fail)
  rw [rounds_succ]
  go_wp2_with fail
  clear u0 v0 u1 v1 u2 v2
  obtain ⟨u0, v0⟩ := mul_bd2 XR.out YR.out Xd.out Yc.out
  obtain ⟨u1, v1⟩ := mul_bd2 XR.out YR.out Xe.out Yf.out
  obtain ⟨u2, v2⟩ := mul_bd2 XR.out YR.out Xf.out Yi.out
  rw [rounds_succ]
  go_wp2_with fail
  refine wp_loop_rounds 4 ?_
  iterate 3 (rw [rounds_succ]; go_wp2_with fail; (refine wp_region_calm_tail 25 (Ext _) (by kernel_rfl) (by kernel_rfl) (Ext.start _) ?_; simp only [List.take_succ_cons, List.take_zero, List.drop_succ_cons, List.drop_zero]; (repeat (refine wpQuiet_step (fun K hK => ?_); go_simp; (try go_bits); apply Exists.intro; refine ⟨fun w' hw' => ?_, hK _ ?_⟩; (focus (first | with_reducible exact rfl | (obtain ⟨gx, rfl⟩ := more_of_below (Ext.below hw'); go_simp; exact rfl))); clear hK K)); refine wpQuiet_nil ?_; intro w3 hw3; have hb3 := Ext.below hw3; clear hw3; obtain ⟨g3, rfl⟩ := more_of_below hb3; clear hb3); go_wp2_with fail)
  rw [rounds_succ]
  go_wp2_with fail
  clear u0 v0 u1 v1 u2 v2
  rw [rounds_succ]
  go_wp2_with fail
  rw [rounds_succ]
  go_wp2_with fail
  refine wp_loop_rounds 4 ?_
  obtain ⟨u0, v0⟩ := mul_bd2 XR.out YR.out Xg.out Ya.out
  obtain ⟨u1, v1⟩ := mul_bd2 XR.out YR.out Xh.out Yd.out
  obtain ⟨u2, v2⟩ := mul_bd2 XR.out YR.out Xi.out Yg.out
  rw [rounds_succ]
  go_wp2_with fail
  refine wp_loop_rounds 4 ?_
  iterate 3 (rw [rounds_succ]; go_wp2_with fail; (refine wp_region_calm_tail 25 (Ext _) (by kernel_rfl) (by kernel_rfl) (Ext.start _) ?_; simp only [List.take_succ_cons, List.take_zero, List.drop_succ_cons, List.drop_zero]; (repeat (refine wpQuiet_step (fun K hK => ?_); go_simp; (try go_bits); apply Exists.intro; refine ⟨fun w' hw' => ?_, hK _ ?_⟩; (focus (first | with_reducible exact rfl | (obtain ⟨gx, rfl⟩ := more_of_below (Ext.below hw'); go_simp; exact rfl))); clear hK K)); refine wpQuiet_nil ?_; intro w3 hw3; have hb3 := Ext.below hw3; clear hw3; obtain ⟨g3, rfl⟩ := more_of_below hb3; clear hb3); go_wp2_with fail)
  rw [rounds_succ]
  go_wp2_with fail
  clear u0 v0 u1 v1 u2 v2
  obtain ⟨u0, v0⟩ := mul_bd2 XR.out YR.out Xg.out Yb.out
  obtain ⟨u1, v1⟩ := mul_bd2 XR.out YR.out Xh.out Ye.out
  obtain ⟨u2, v2⟩ := mul_bd2 XR.out YR.out Xi.out Yh.out
  rw [rounds_succ]
  go_wp2_with fail
  refine wp_loop_rounds 4 ?_
  iterate 3 (rw [rounds_succ]; go_wp2_with fail; (refine wp_region_calm_tail 25 (Ext _) (by kernel_rfl) (by kernel_rfl) (Ext.start _) ?_; simp only [List.take_succ_cons, List.take_zero, List.drop_succ_cons, List.drop_zero]; (repeat (refine wpQuiet_step (fun K hK => ?_); go_simp; (try go_bits); apply Exists.intro; refine ⟨fun w' hw' => ?_, hK _ ?_⟩; (focus (first | with_reducible exact rfl | (obtain ⟨gx, rfl⟩ := more_of_below (Ext.below hw'); go_simp; exact rfl))); clear hK K)); refine wpQuiet_nil ?_; intro w3 hw3; have hb3 := Ext.below hw3; clear hw3; obtain ⟨g3, rfl⟩ := more_of_below hb3; clear hb3); go_wp2_with fail)
  rw [rounds_succ]
  go_wp2_with fail
  clear u0 v0 u1 v1 u2 v2
  obtain ⟨u0, v0⟩ := mul_bd2 XR.out YR.out Xg.out Yc.out
  obtain ⟨u1, v1⟩ := mul_bd2 XR.out YR.out Xh.out Yf.out
  obtain ⟨u2, v2⟩ := mul_bd2 XR.out YR.out Xi.out Yi.out
  rw [rounds_succ]
  go_wp2_with fail
  refine wp_loop_rounds 4 ?_
  iterate 3 (rw [rounds_succ]; go_wp2_with fail; (refine wp_region_calm_tail 25 (Ext _) (by kernel_rfl) (by kernel_rfl) (Ext.start _) ?_; simp only [List.take_succ_cons, List.take_zero, List.drop_succ_cons, List.drop_zero]; (repeat (refine wpQuiet_step (fun K hK => ?_); go_simp; (try go_bits); apply Exists.intro; refine ⟨fun w' hw' => ?_, hK _ ?_⟩; (focus (first | with_reducible exact rfl | (obtain ⟨gx, rfl⟩ := more_of_below (Ext.below hw'); go_simp; exact rfl))); clear hK K)); refine wpQuiet_nil ?_; intro w3 hw3; have hb3 := Ext.below hw3; clear hw3; obtain ⟨g3, rfl⟩ := more_of_below hb3; clear hb3); go_wp2_with fail)
  rw [rounds_succ]
  go_wp2_with fail
  clear u0 v0 u1 v1 u2 v2
  rw [rounds_succ]
  go_wp2_with fail
  rw [rounds_succ]
  go_wp2_with (first | (go_at_call 100; with_reducible refine (HL.out _).mono ?_; rintro e w4 ⟨rfl, hb4⟩; obtain ⟨g4, rfl⟩ := more_of_below hb4; clear hb4))
  refine bodyPost_ret (v := .agg #[.int .i64 ra, .int .i64 rb, .int .i64 rc, .int .i64 rd, .int .i64 re, .int .i64 rf, .int .i64 rg, .int .i64 rh, .int .i64 ri, .int .i64 rn]) (by simp [results, Try.results90, go_sem]) rfl ⟨rfl, by (repeat (first | with_reducible assumption | with_reducible exact Below.refl _ _ | with_reducible refine Below.drewN ?_ _ | with_reducible refine Below.drew ?_ | with_reducible refine Below.alloc ?_ (by first | omega | (simp; done) | (simp; omega)) _ | with_reducible refine Below.setCell ?_ (by first | omega | (simp; done) | (simp; omega)) _ | with_reducible refine below_more _ _ ?_ (by first | omega | (simp; done) | (simp; omega))))⟩
end Go.Proofs.Ythajaabgcbjfkaa
