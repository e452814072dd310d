/- Contracts: CheckRotation of the program. -/
import Derived.Test.YthajaabgcbjfkaaT0
namespace Go.Proofs.Ythajaabgcbjfkaa
open Go.RowKit

set_option maxRecDepth 100000 in
set_option maxHeartbeats 4000000 in
theorem crot_range (x : Rt) (h : ¬ x.Rng) (w : World) :
    Calls Try.prog 49 #[.agg #[.int .i64 x.a, .int .i64 x.b, .int .i64 x.c, .int .i64 x.d, .int .i64 x.e, .int .i64 x.f, .int .i64 x.g, .int .i64 x.h, .int .i64 x.i, .int .i64 x.n]] w fun e w' => e = .returned (.int .i64 2) ∧ Below w.heap.size w w' := by
  have HK := Lib.hid h
  unfold Rt.Rng at HK
  clear h
  obtain ⟨xa, xb, xc, xd, xe, xf, xg, xh, xi, xn⟩ := x
  simp only at *
  have j0 : ∀ (a b c d e f g h i : Int) (w : World), (Instr.index 66 (.agg #[.int .i64 a, .int .i64 b, .int .i64 c, .int .i64 d, .int .i64 e, .int .i64 f, .int .i64 g, .int .i64 h, .int .i64 i]) (.int .i64 0)).run Try.prog w = .ok (.agg #[.int .i64 a, .int .i64 b, .int .i64 c]) w := fun _ _ _ _ _ _ _ _ _ _ => by kernel_rfl
  have j1 : ∀ (a b c d e f g h i : Int) (w : World), (Instr.index 66 (.agg #[.int .i64 a, .int .i64 b, .int .i64 c, .int .i64 d, .int .i64 e, .int .i64 f, .int .i64 g, .int .i64 h, .int .i64 i]) (.int .i64 1)).run Try.prog w = .ok (.agg #[.int .i64 d, .int .i64 e, .int .i64 f]) w := fun _ _ _ _ _ _ _ _ _ _ => by kernel_rfl
  have j2 : ∀ (a b c d e f g h i : Int) (w : World), (Instr.index 66 (.agg #[.int .i64 a, .int .i64 b, .int .i64 c, .int .i64 d, .int .i64 e, .int .i64 f, .int .i64 g, .int .i64 h, .int .i64 i]) (.int .i64 2)).run Try.prog w = .ok (.agg #[.int .i64 g, .int .i64 h, .int .i64 i]) w := fun _ _ _ _ _ _ _ _ _ _ => by kernel_rfl
  have k0 : ∀ (a b c : Int) (w : World), (Instr.index 65 (.agg #[.int .i64 a, .int .i64 b, .int .i64 c]) (.int .i64 0)).run Try.prog w = .ok (.int .i64 a) w := fun _ _ _ _ => by kernel_rfl
  have k1 : ∀ (a b c : Int) (w : World), (Instr.index 65 (.agg #[.int .i64 a, .int .i64 b, .int .i64 c]) (.int .i64 1)).run Try.prog w = .ok (.int .i64 b) w := fun _ _ _ _ => by kernel_rfl
  have k2 : ∀ (a b c : Int) (w : World), (Instr.index 65 (.agg #[.int .i64 a, .int .i64 b, .int .i64 c]) (.int .i64 2)).run Try.prog w = .ok (.int .i64 c) w := fun _ _ _ _ => by kernel_rfl
  go_enter Try.func49, Try.ntmps49
  go_wp2
  any_goals refine wp_loop_rounds 4 ?_
  repeat any_goals (rw [rounds_succ]; go_wp2; (all_goals (try (exfalso; have hk := HK.out; omega))); (all_goals (try refine wp_loop_rounds 4 ?_)))
  all_goals (go_ret; exact ⟨rfl, by (repeat (first | with_reducible assumption | with_reducible exact Below.refl _ _ | with_reducible refine Below.drewN ?_ _ | with_reducible refine Below.drew ?_ | with_reducible refine Below.alloc ?_ (by first | omega | (simp; done) | (simp; omega)) _ | with_reducible refine Below.setCell ?_ (by first | omega | (simp; done) | (simp; omega)) _ | with_reducible refine below_more _ _ ?_ (by first | omega | (simp; done) | (simp; omega))))⟩)

set_option maxRecDepth 100000 in
set_option maxHeartbeats 16000000 in
theorem crot_in (x : Rt) (h : x.Rng) (w : World) :
    Calls Try.prog 49 #[.agg #[.int .i64 x.a, .int .i64 x.b, .int .i64 x.c, .int .i64 x.d, .int .i64 x.e, .int .i64 x.f, .int .i64 x.g, .int .i64 x.h, .int .i64 x.i, .int .i64 x.n]] w fun e w' => e = .returned (.int .i64 ((if x.Frm then 0 else 3))) ∧ Below w.heap.size w w' := by
  obtain ⟨⟨n0, n1⟩, ra, rb, rc, rd, re, rf, rg, rh, ri⟩ := h
  generalize hr : (if x.Frm then (0 : Int) else 3) = r
  have HP := Lib.hid (fun k : x.Frm => show r = 0 by rw [← hr, if_pos k])
  have HN := Lib.hid (fun k : ¬ x.Frm => show r = 3 by rw [← hr, if_neg k])
  unfold Rt.Frm at HP HN
  clear hr
  obtain ⟨xa, xb, xc, xd, xe, xf, xg, xh, xi, xn⟩ := x
  simp only at *
  have RN : Hid (0 ≤ xn ∧ xn ≤ 1000000) := ⟨by omega, n1⟩
  have Ra := Lib.hid ra
  have Rb := Lib.hid rb
  have Rc := Lib.hid rc
  have Rd := Lib.hid rd
  have Re := Lib.hid re
  have Rf := Lib.hid rf
  have Rg := Lib.hid rg
  have Rh := Lib.hid rh
  have Ri := Lib.hid ri
  obtain ⟨ra0, ra1⟩ := ra
  obtain ⟨rb0, rb1⟩ := rb
  obtain ⟨rc0, rc1⟩ := rc
  obtain ⟨rd0, rd1⟩ := rd
  obtain ⟨re0, re1⟩ := re
  obtain ⟨rf0, rf1⟩ := rf
  obtain ⟨rg0, rg1⟩ := rg
  obtain ⟨rh0, rh1⟩ := rh
  obtain ⟨ri0, ri1⟩ := ri
  have j0 : ∀ (a b c d e f g h i : Int) (w : World), (Instr.index 66 (.agg #[.int .i64 a, .int .i64 b, .int .i64 c, .int .i64 d, .int .i64 e, .int .i64 f, .int .i64 g, .int .i64 h, .int .i64 i]) (.int .i64 0)).run Try.prog w = .ok (.agg #[.int .i64 a, .int .i64 b, .int .i64 c]) w := fun _ _ _ _ _ _ _ _ _ _ => by kernel_rfl
  have j1 : ∀ (a b c d e f g h i : Int) (w : World), (Instr.index 66 (.agg #[.int .i64 a, .int .i64 b, .int .i64 c, .int .i64 d, .int .i64 e, .int .i64 f, .int .i64 g, .int .i64 h, .int .i64 i]) (.int .i64 1)).run Try.prog w = .ok (.agg #[.int .i64 d, .int .i64 e, .int .i64 f]) w := fun _ _ _ _ _ _ _ _ _ _ => by kernel_rfl
  have j2 : ∀ (a b c d e f g h i : Int) (w : World), (Instr.index 66 (.agg #[.int .i64 a, .int .i64 b, .int .i64 c, .int .i64 d, .int .i64 e, .int .i64 f, .int .i64 g, .int .i64 h, .int .i64 i]) (.int .i64 2)).run Try.prog w = .ok (.agg #[.int .i64 g, .int .i64 h, .int .i64 i]) w := fun _ _ _ _ _ _ _ _ _ _ => by kernel_rfl
  have k0 : ∀ (a b c : Int) (w : World), (Instr.index 65 (.agg #[.int .i64 a, .int .i64 b, .int .i64 c]) (.int .i64 0)).run Try.prog w = .ok (.int .i64 a) w := fun _ _ _ _ => by kernel_rfl
  have k1 : ∀ (a b c : Int) (w : World), (Instr.index 65 (.agg #[.int .i64 a, .int .i64 b, .int .i64 c]) (.int .i64 1)).run Try.prog w = .ok (.int .i64 b) w := fun _ _ _ _ => by kernel_rfl
  have k2 : ∀ (a b c : Int) (w : World), (Instr.index 65 (.agg #[.int .i64 a, .int .i64 b, .int .i64 c]) (.int .i64 2)).run Try.prog w = .ok (.int .i64 c) w := fun _ _ _ _ => by kernel_rfl
  go_enter Try.func49, Try.ntmps49
  go_wp2
  refine wp_loop_rounds 4 ?_
  iterate 3 (rw [rounds_succ]; go_wp2; refine wp_loop_rounds 4 ?_; (iterate 3 (rw [rounds_succ]; go_wp2)); rw [rounds_succ]; go_wp2)
  rw [rounds_succ]
  go_wp2
  clear j0 j1 j2 k0 k1 k2
  clear ra0 ra1
  clear rb0 rb1
  clear rc0 rc1
  clear rd0 rd1
  clear re0 re1
  clear rf0 rf1
  clear rg0 rg1
  clear rh0 rh1
  clear ri0 ri1
  obtain ⟨un, vn⟩ := mul_bd RN.out ⟨by omega, Int.le_refl _⟩ ⟨by omega, Int.le_refl _⟩
  refine wp_loop_rounds 4 ?_
  rw [rounds_succ]
  go_wp2
  refine wp_loop_rounds 4 ?_
  obtain ⟨u0, v0⟩ := mul_bd RN.out Ra.out Ra.out
  obtain ⟨u1, v1⟩ := mul_bd RN.out Rb.out Rb.out
  obtain ⟨u2, v2⟩ := mul_bd RN.out Rc.out Rc.out
  rw [rounds_succ]
  go_wp2
  (refine wp_region_quiet (C := Ext _) (by kernel_rfl) (by kernel_rfl) (Ext.start _) ?_; simp only []; (repeat (refine wpQuiet_step (fun K hK => ?_); go_simp; (try go_bits); apply Exists.intro; refine ⟨fun w' hw' => ?_, hK _ ?_⟩; (focus (first | with_reducible exact rfl | (obtain ⟨gx, rfl⟩ := more_of_below (Ext.below hw'); go_simp; exact rfl))); clear hK K)); refine wpQuiet_nil ?_; intro w1 hw1; have hb1 := Ext.below hw1; clear hw1; obtain ⟨g1, rfl⟩ := more_of_below hb1; clear hb1)
  go_wp2
  · (have hne : (xa * xa + xb * xb + xc * xc != xn * xn) = true := by assumption); (have e : r = 3 := HN.out (fun hF => by rw [bne_iff_ne] at hne; exact hne (by have := Int.mul_comm xa xd; have := Int.mul_comm xb xe; have := Int.mul_comm xc xf; have := Int.mul_comm xa xg; have := Int.mul_comm xb xh; have := Int.mul_comm xc xi; have := Int.mul_comm xd xg; have := Int.mul_comm xe xh; have := Int.mul_comm xf xi; omega))); (subst e); go_ret; exact ⟨rfl, by (repeat (first | with_reducible assumption | with_reducible exact Below.refl _ _ | with_reducible refine Below.drewN ?_ _ | with_reducible refine Below.drew ?_ | with_reducible refine Below.alloc ?_ (by first | omega | (simp; done) | (simp; omega)) _ | with_reducible refine Below.setCell ?_ (by first | omega | (simp; done) | (simp; omega)) _ | with_reducible refine below_more _ _ ?_ (by first | omega | (simp; done) | (simp; omega))))⟩
  clear u0 v0 u1 v1 u2 v2
  obtain ⟨u0, v0⟩ := mul_bd RN.out Ra.out Rd.out
  obtain ⟨u1, v1⟩ := mul_bd RN.out Rb.out Re.out
  obtain ⟨u2, v2⟩ := mul_bd RN.out Rc.out Rf.out
  rw [rounds_succ]
  go_wp2
  (refine wp_region_quiet (C := Ext _) (by kernel_rfl) (by kernel_rfl) (Ext.start _) ?_; simp only []; (repeat (refine wpQuiet_step (fun K hK => ?_); go_simp; (try go_bits); apply Exists.intro; refine ⟨fun w' hw' => ?_, hK _ ?_⟩; (focus (first | with_reducible exact rfl | (obtain ⟨gx, rfl⟩ := more_of_below (Ext.below hw'); go_simp; exact rfl))); clear hK K)); refine wpQuiet_nil ?_; intro w1 hw1; have hb1 := Ext.below hw1; clear hw1; obtain ⟨g1, rfl⟩ := more_of_below hb1; clear hb1)
  go_wp2
  · (have hne : (xa * xd + xb * xe + xc * xf != 0) = true := by assumption); (have e : r = 3 := HN.out (fun hF => by rw [bne_iff_ne] at hne; exact hne (by have := Int.mul_comm xa xd; have := Int.mul_comm xb xe; have := Int.mul_comm xc xf; have := Int.mul_comm xa xg; have := Int.mul_comm xb xh; have := Int.mul_comm xc xi; have := Int.mul_comm xd xg; have := Int.mul_comm xe xh; have := Int.mul_comm xf xi; omega))); (subst e); go_ret; exact ⟨rfl, by (repeat (first | with_reducible assumption | with_reducible exact Below.refl _ _ | with_reducible refine Below.drewN ?_ _ | with_reducible refine Below.drew ?_ | with_reducible refine Below.alloc ?_ (by first | omega | (simp; done) | (simp; omega)) _ | with_reducible refine Below.setCell ?_ (by first | omega | (simp; done) | (simp; omega)) _ | with_reducible refine below_more _ _ ?_ (by first | omega | (simp; done) | (simp; omega))))⟩
  clear u0 v0 u1 v1 u2 v2
  obtain ⟨u0, v0⟩ := mul_bd RN.out Ra.out Rg.out
  obtain ⟨u1, v1⟩ := mul_bd RN.out Rb.out Rh.out
  obtain ⟨u2, v2⟩ := mul_bd RN.out Rc.out Ri.out
  rw [rounds_succ]
  go_wp2
  (refine wp_region_quiet (C := Ext _) (by kernel_rfl) (by kernel_rfl) (Ext.start _) ?_; simp only []; (repeat (refine wpQuiet_step (fun K hK => ?_); go_simp; (try go_bits); apply Exists.intro; refine ⟨fun w' hw' => ?_, hK _ ?_⟩; (focus (first | with_reducible exact rfl | (obtain ⟨gx, rfl⟩ := more_of_below (Ext.below hw'); go_simp; exact rfl))); clear hK K)); refine wpQuiet_nil ?_; intro w1 hw1; have hb1 := Ext.below hw1; clear hw1; obtain ⟨g1, rfl⟩ := more_of_below hb1; clear hb1)
  go_wp2
  · (have hne : (xa * xg + xb * xh + xc * xi != 0) = true := by assumption); (have e : r = 3 := HN.out (fun hF => by rw [bne_iff_ne] at hne; exact hne (by have := Int.mul_comm xa xd; have := Int.mul_comm xb xe; have := Int.mul_comm xc xf; have := Int.mul_comm xa xg; have := Int.mul_comm xb xh; have := Int.mul_comm xc xi; have := Int.mul_comm xd xg; have := Int.mul_comm xe xh; have := Int.mul_comm xf xi; omega))); (subst e); go_ret; exact ⟨rfl, by (repeat (first | with_reducible assumption | with_reducible exact Below.refl _ _ | with_reducible refine Below.drewN ?_ _ | with_reducible refine Below.drew ?_ | with_reducible refine Below.alloc ?_ (by first | omega | (simp; done) | (simp; omega)) _ | with_reducible refine Below.setCell ?_ (by first | omega | (simp; done) | (simp; omega)) _ | with_reducible refine below_more _ _ ?_ (by first | omega | (simp; done) | (simp; omega))))⟩
  clear u0 v0 u1 v1 u2 v2
  rw [rounds_succ]
  go_wp2
  rw [rounds_succ]
  go_wp2
  refine wp_loop_rounds 4 ?_
  obtain ⟨u0, v0⟩ := mul_bd RN.out Rd.out Ra.out
  obtain ⟨u1, v1⟩ := mul_bd RN.out Re.out Rb.out
  obtain ⟨u2, v2⟩ := mul_bd RN.out Rf.out Rc.out
  rw [rounds_succ]
  go_wp2
  (refine wp_region_quiet (C := Ext _) (by kernel_rfl) (by kernel_rfl) (Ext.start _) ?_; simp only []; (repeat (refine wpQuiet_step (fun K hK => ?_); go_simp; (try go_bits); apply Exists.intro; refine ⟨fun w' hw' => ?_, hK _ ?_⟩; (focus (first | with_reducible exact rfl | (obtain ⟨gx, rfl⟩ := more_of_below (Ext.below hw'); go_simp; exact rfl))); clear hK K)); refine wpQuiet_nil ?_; intro w1 hw1; have hb1 := Ext.below hw1; clear hw1; obtain ⟨g1, rfl⟩ := more_of_below hb1; clear hb1)
  go_wp2
  · (have hne : (xd * xa + xe * xb + xf * xc != 0) = true := by assumption); (have e : r = 3 := HN.out (fun hF => by rw [bne_iff_ne] at hne; exact hne (by have := Int.mul_comm xa xd; have := Int.mul_comm xb xe; have := Int.mul_comm xc xf; have := Int.mul_comm xa xg; have := Int.mul_comm xb xh; have := Int.mul_comm xc xi; have := Int.mul_comm xd xg; have := Int.mul_comm xe xh; have := Int.mul_comm xf xi; omega))); (subst e); go_ret; exact ⟨rfl, by (repeat (first | with_reducible assumption | with_reducible exact Below.refl _ _ | with_reducible refine Below.drewN ?_ _ | with_reducible refine Below.drew ?_ | with_reducible refine Below.alloc ?_ (by first | omega | (simp; done) | (simp; omega)) _ | with_reducible refine Below.setCell ?_ (by first | omega | (simp; done) | (simp; omega)) _ | with_reducible refine below_more _ _ ?_ (by first | omega | (simp; done) | (simp; omega))))⟩
  clear u0 v0 u1 v1 u2 v2
  obtain ⟨u0, v0⟩ := mul_bd RN.out Rd.out Rd.out
  obtain ⟨u1, v1⟩ := mul_bd RN.out Re.out Re.out
  obtain ⟨u2, v2⟩ := mul_bd RN.out Rf.out Rf.out
  rw [rounds_succ]
  go_wp2
  (refine wp_region_quiet (C := Ext _) (by kernel_rfl) (by kernel_rfl) (Ext.start _) ?_; simp only []; (repeat (refine wpQuiet_step (fun K hK => ?_); go_simp; (try go_bits); apply Exists.intro; refine ⟨fun w' hw' => ?_, hK _ ?_⟩; (focus (first | with_reducible exact rfl | (obtain ⟨gx, rfl⟩ := more_of_below (Ext.below hw'); go_simp; exact rfl))); clear hK K)); refine wpQuiet_nil ?_; intro w1 hw1; have hb1 := Ext.below hw1; clear hw1; obtain ⟨g1, rfl⟩ := more_of_below hb1; clear hb1)
  go_wp2
  · (have hne : (xd * xd + xe * xe + xf * xf != xn * xn) = true := by assumption); (have e : r = 3 := HN.out (fun hF => by rw [bne_iff_ne] at hne; exact hne (by have := Int.mul_comm xa xd; have := Int.mul_comm xb xe; have := Int.mul_comm xc xf; have := Int.mul_comm xa xg; have := Int.mul_comm xb xh; have := Int.mul_comm xc xi; have := Int.mul_comm xd xg; have := Int.mul_comm xe xh; have := Int.mul_comm xf xi; omega))); (subst e); go_ret; exact ⟨rfl, by (repeat (first | with_reducible assumption | with_reducible exact Below.refl _ _ | with_reducible refine Below.drewN ?_ _ | with_reducible refine Below.drew ?_ | with_reducible refine Below.alloc ?_ (by first | omega | (simp; done) | (simp; omega)) _ | with_reducible refine Below.setCell ?_ (by first | omega | (simp; done) | (simp; omega)) _ | with_reducible refine below_more _ _ ?_ (by first | omega | (simp; done) | (simp; omega))))⟩
  clear u0 v0 u1 v1 u2 v2
  obtain ⟨u0, v0⟩ := mul_bd RN.out Rd.out Rg.out
  obtain ⟨u1, v1⟩ := mul_bd RN.out Re.out Rh.out
  obtain ⟨u2, v2⟩ := mul_bd RN.out Rf.out Ri.out
  rw [rounds_succ]
  go_wp2
  (refine wp_region_quiet (C := Ext _) (by kernel_rfl) (by kernel_rfl) (Ext.start _) ?_; simp only []; (repeat (refine wpQuiet_step (fun K hK => ?_); go_simp; (try go_bits); apply Exists.intro; refine ⟨fun w' hw' => ?_, hK _ ?_⟩; (focus (first | with_reducible exact rfl | (obtain ⟨gx, rfl⟩ := more_of_below (Ext.below hw'); go_simp; exact rfl))); clear hK K)); refine wpQuiet_nil ?_; intro w1 hw1; have hb1 := Ext.below hw1; clear hw1; obtain ⟨g1, rfl⟩ := more_of_below hb1; clear hb1)
  go_wp2
  · (have hne : (xd * xg + xe * xh + xf * xi != 0) = true := by assumption); (have e : r = 3 := HN.out (fun hF => by rw [bne_iff_ne] at hne; exact hne (by have := Int.mul_comm xa xd; have := Int.mul_comm xb xe; have := Int.mul_comm xc xf; have := Int.mul_comm xa xg; have := Int.mul_comm xb xh; have := Int.mul_comm xc xi; have := Int.mul_comm xd xg; have := Int.mul_comm xe xh; have := Int.mul_comm xf xi; omega))); (subst e); go_ret; exact ⟨rfl, by (repeat (first | with_reducible assumption | with_reducible exact Below.refl _ _ | with_reducible refine Below.drewN ?_ _ | with_reducible refine Below.drew ?_ | with_reducible refine Below.alloc ?_ (by first | omega | (simp; done) | (simp; omega)) _ | with_reducible refine Below.setCell ?_ (by first | omega | (simp; done) | (simp; omega)) _ | with_reducible refine below_more _ _ ?_ (by first | omega | (simp; done) | (simp; omega))))⟩
  clear u0 v0 u1 v1 u2 v2
  rw [rounds_succ]
  go_wp2
  rw [rounds_succ]
  go_wp2
  refine wp_loop_rounds 4 ?_
  obtain ⟨u0, v0⟩ := mul_bd RN.out Rg.out Ra.out
  obtain ⟨u1, v1⟩ := mul_bd RN.out Rh.out Rb.out
  obtain ⟨u2, v2⟩ := mul_bd RN.out Ri.out Rc.out
  rw [rounds_succ]
  go_wp2
  (refine wp_region_quiet (C := Ext _) (by kernel_rfl) (by kernel_rfl) (Ext.start _) ?_; simp only []; (repeat (refine wpQuiet_step (fun K hK => ?_); go_simp; (try go_bits); apply Exists.intro; refine ⟨fun w' hw' => ?_, hK _ ?_⟩; (focus (first | with_reducible exact rfl | (obtain ⟨gx, rfl⟩ := more_of_below (Ext.below hw'); go_simp; exact rfl))); clear hK K)); refine wpQuiet_nil ?_; intro w1 hw1; have hb1 := Ext.below hw1; clear hw1; obtain ⟨g1, rfl⟩ := more_of_below hb1; clear hb1)
  go_wp2
  · (have hne : (xg * xa + xh * xb + xi * xc != 0) = true := by assumption); (have e : r = 3 := HN.out (fun hF => by rw [bne_iff_ne] at hne; exact hne (by have := Int.mul_comm xa xd; have := Int.mul_comm xb xe; have := Int.mul_comm xc xf; have := Int.mul_comm xa xg; have := Int.mul_comm xb xh; have := Int.mul_comm xc xi; have := Int.mul_comm xd xg; have := Int.mul_comm xe xh; have := Int.mul_comm xf xi; omega))); (subst e); go_ret; exact ⟨rfl, by (repeat (first | with_reducible assumption | with_reducible exact Below.refl _ _ | with_reducible refine Below.drewN ?_ _ | with_reducible refine Below.drew ?_ | with_reducible refine Below.alloc ?_ (by first | omega | (simp; done) | (simp; omega)) _ | with_reducible refine Below.setCell ?_ (by first | omega | (simp; done) | (simp; omega)) _ | with_reducible refine below_more _ _ ?_ (by first | omega | (simp; done) | (simp; omega))))⟩
  clear u0 v0 u1 v1 u2 v2
  obtain ⟨u0, v0⟩ := mul_bd RN.out Rg.out Rd.out
  obtain ⟨u1, v1⟩ := mul_bd RN.out Rh.out Re.out
  obtain ⟨u2, v2⟩ := mul_bd RN.out Ri.out Rf.out
  rw [rounds_succ]
  go_wp2
  (refine wp_region_quiet (C := Ext _) (by kernel_rfl) (by kernel_rfl) (Ext.start _) ?_; simp only []; (repeat (refine wpQuiet_step (fun K hK => ?_); go_simp; (try go_bits); apply Exists.intro; refine ⟨fun w' hw' => ?_, hK _ ?_⟩; (focus (first | with_reducible exact rfl | (obtain ⟨gx, rfl⟩ := more_of_below (Ext.below hw'); go_simp; exact rfl))); clear hK K)); refine wpQuiet_nil ?_; intro w1 hw1; have hb1 := Ext.below hw1; clear hw1; obtain ⟨g1, rfl⟩ := more_of_below hb1; clear hb1)
  go_wp2
  · (have hne : (xg * xd + xh * xe + xi * xf != 0) = true := by assumption); (have e : r = 3 := HN.out (fun hF => by rw [bne_iff_ne] at hne; exact hne (by have := Int.mul_comm xa xd; have := Int.mul_comm xb xe; have := Int.mul_comm xc xf; have := Int.mul_comm xa xg; have := Int.mul_comm xb xh; have := Int.mul_comm xc xi; have := Int.mul_comm xd xg; have := Int.mul_comm xe xh; have := Int.mul_comm xf xi; omega))); (subst e); go_ret; exact ⟨rfl, by (repeat (first | with_reducible assumption | with_reducible exact Below.refl _ _ | with_reducible refine Below.drewN ?_ _ | with_reducible refine Below.drew ?_ | with_reducible refine Below.alloc ?_ (by first | omega | (simp; done) | (simp; omega)) _ | with_reducible refine Below.setCell ?_ (by first | omega | (simp; done) | (simp; omega)) _ | with_reducible refine below_more _ _ ?_ (by first | omega | (simp; done) | (simp; omega))))⟩
  clear u0 v0 u1 v1 u2 v2
  obtain ⟨u0, v0⟩ := mul_bd RN.out Rg.out Rg.out
  obtain ⟨u1, v1⟩ := mul_bd RN.out Rh.out Rh.out
  obtain ⟨u2, v2⟩ := mul_bd RN.out Ri.out Ri.out
  rw [rounds_succ]
  go_wp2
  (refine wp_region_quiet (C := Ext _) (by kernel_rfl) (by kernel_rfl) (Ext.start _) ?_; simp only []; (repeat (refine wpQuiet_step (fun K hK => ?_); go_simp; (try go_bits); apply Exists.intro; refine ⟨fun w' hw' => ?_, hK _ ?_⟩; (focus (first | with_reducible exact rfl | (obtain ⟨gx, rfl⟩ := more_of_below (Ext.below hw'); go_simp; exact rfl))); clear hK K)); refine wpQuiet_nil ?_; intro w1 hw1; have hb1 := Ext.below hw1; clear hw1; obtain ⟨g1, rfl⟩ := more_of_below hb1; clear hb1)
  go_wp2
  · (have hne : (xg * xg + xh * xh + xi * xi != xn * xn) = true := by assumption); (have e : r = 3 := HN.out (fun hF => by rw [bne_iff_ne] at hne; exact hne (by have := Int.mul_comm xa xd; have := Int.mul_comm xb xe; have := Int.mul_comm xc xf; have := Int.mul_comm xa xg; have := Int.mul_comm xb xh; have := Int.mul_comm xc xi; have := Int.mul_comm xd xg; have := Int.mul_comm xe xh; have := Int.mul_comm xf xi; omega))); (subst e); go_ret; exact ⟨rfl, by (repeat (first | with_reducible assumption | with_reducible exact Below.refl _ _ | with_reducible refine Below.drewN ?_ _ | with_reducible refine Below.drew ?_ | with_reducible refine Below.alloc ?_ (by first | omega | (simp; done) | (simp; omega)) _ | with_reducible refine Below.setCell ?_ (by first | omega | (simp; done) | (simp; omega)) _ | with_reducible refine below_more _ _ ?_ (by first | omega | (simp; done) | (simp; omega))))⟩
  clear u0 v0 u1 v1 u2 v2
  rw [rounds_succ]
  go_wp2
  obtain ⟨n2, n3⟩ : -xn ≤ xn ∧ xn ≤ xn := ⟨by omega, Int.le_refl _⟩
  obtain ⟨u0, v0⟩ := mul_bd RN.out Rb.out Rf.out
  obtain ⟨u1, v1⟩ := mul_bd RN.out Rc.out Re.out
  obtain ⟨u2, v2⟩ := mul_bd RN.out Rg.out ⟨n2, n3⟩
  obtain ⟨u3, v3⟩ := mul_bd RN.out Rc.out Rd.out
  obtain ⟨u4, v4⟩ := mul_bd RN.out Ra.out Rf.out
  obtain ⟨u5, v5⟩ := mul_bd RN.out Rh.out ⟨n2, n3⟩
  obtain ⟨u6, v6⟩ := mul_bd RN.out Ra.out Re.out
  obtain ⟨u7, v7⟩ := mul_bd RN.out Rb.out Rd.out
  obtain ⟨u8, v8⟩ := mul_bd RN.out Ri.out ⟨n2, n3⟩
  clear n2 n3
  rw [rounds_succ]
  go_wp2
  all_goals (try ((refine wp_region_quiet (C := Ext _) (by kernel_rfl) (by kernel_rfl) (Ext.start _) ?_; simp only []; (repeat (refine wpQuiet_step (fun K hK => ?_); go_simp; (try go_bits); apply Exists.intro; refine ⟨fun w' hw' => ?_, hK _ ?_⟩; (focus (first | with_reducible exact rfl | (obtain ⟨gx, rfl⟩ := more_of_below (Ext.below hw'); go_simp; exact rfl))); clear hK K)); refine wpQuiet_nil ?_; intro w1 hw1; have hb1 := Ext.below hw1; clear hw1; obtain ⟨g1, rfl⟩ := more_of_below hb1; clear hb1); go_wp2))
  all_goals (first | ((have q00 : (xa * xa + xb * xb + xc * xc != xn * xn) = false := by assumption); (have q01 : (xa * xd + xb * xe + xc * xf != 0) = false := by assumption); (have q02 : (xa * xg + xb * xh + xc * xi != 0) = false := by assumption); (have q11 : (xd * xd + xe * xe + xf * xf != xn * xn) = false := by assumption); (have q12 : (xd * xg + xe * xh + xf * xi != 0) = false := by assumption); (have q22 : (xg * xg + xh * xh + xi * xi != xn * xn) = false := by assumption); (have p0 : xb * xf - xc * xe = xg * xn := by assumption); (have p1 : xc * xd - xa * xf = xh * xn := by assumption); (have p2 : (xa * xe - xb * xd != xi * xn) = false := by assumption); rw [bne_eq_false_iff_eq] at q00 q01 q02 q11 q12 q22 p2; (have e : r = 0 := HP.out ⟨⟨q00, q11, q22⟩, ⟨q01, q02, q12⟩, p0, p1, p2⟩); (subst e); go_ret; exact ⟨rfl, by (repeat (first | with_reducible assumption | with_reducible exact Below.refl _ _ | with_reducible refine Below.drewN ?_ _ | with_reducible refine Below.drew ?_ | with_reducible refine Below.alloc ?_ (by first | omega | (simp; done) | (simp; omega)) _ | with_reducible refine Below.setCell ?_ (by first | omega | (simp; done) | (simp; omega)) _ | with_reducible refine below_more _ _ ?_ (by first | omega | (simp; done) | (simp; omega))))⟩) | ((have hne : ¬ xb * xf - xc * xe = xg * xn := by assumption); (have e : r = 3 := HN.out (fun hF => hne (by omega))); (subst e); go_ret; exact ⟨rfl, by (repeat (first | with_reducible assumption | with_reducible exact Below.refl _ _ | with_reducible refine Below.drewN ?_ _ | with_reducible refine Below.drew ?_ | with_reducible refine Below.alloc ?_ (by first | omega | (simp; done) | (simp; omega)) _ | with_reducible refine Below.setCell ?_ (by first | omega | (simp; done) | (simp; omega)) _ | with_reducible refine below_more _ _ ?_ (by first | omega | (simp; done) | (simp; omega))))⟩) | ((have hne : ¬ xc * xd - xa * xf = xh * xn := by assumption); (have e : r = 3 := HN.out (fun hF => hne (by omega))); (subst e); go_ret; exact ⟨rfl, by (repeat (first | with_reducible assumption | with_reducible exact Below.refl _ _ | with_reducible refine Below.drewN ?_ _ | with_reducible refine Below.drew ?_ | with_reducible refine Below.alloc ?_ (by first | omega | (simp; done) | (simp; omega)) _ | with_reducible refine Below.setCell ?_ (by first | omega | (simp; done) | (simp; omega)) _ | with_reducible refine below_more _ _ ?_ (by first | omega | (simp; done) | (simp; omega))))⟩) | ((have hne : (xa * xe - xb * xd != xi * xn) = true := by assumption); (have e : r = 3 := HN.out (fun hF => by rw [bne_iff_ne] at hne; exact hne (by have := Int.mul_comm xa xd; have := Int.mul_comm xb xe; have := Int.mul_comm xc xf; have := Int.mul_comm xa xg; have := Int.mul_comm xb xh; have := Int.mul_comm xc xi; have := Int.mul_comm xd xg; have := Int.mul_comm xe xh; have := Int.mul_comm xf xi; omega))); (subst e); go_ret; exact ⟨rfl, by (repeat (first | with_reducible assumption | with_reducible exact Below.refl _ _ | with_reducible refine Below.drewN ?_ _ | with_reducible refine Below.drew ?_ | with_reducible refine Below.alloc ?_ (by first | omega | (simp; done) | (simp; omega)) _ | with_reducible refine Below.setCell ?_ (by first | omega | (simp; done) | (simp; omega)) _ | with_reducible refine below_more _ _ ?_ (by first | omega | (simp; done) | (simp; omega))))⟩))
end Go.Proofs.Ythajaabgcbjfkaa
