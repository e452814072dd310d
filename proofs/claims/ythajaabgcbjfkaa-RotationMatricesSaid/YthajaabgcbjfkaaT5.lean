/- Contracts: RotationErr of the reference, where the sizes are right. -/
import Derived.Test.YthajaabgcbjfkaaT4
import Derived.BigRegion
namespace Go.Proofs.Ythajaabgcbjfkaa
open Go.RowKit

/-- What the reference asks of a rotation, beside the sizes. -/
def Rt.FrmR (x : Rt) : Prop := (x.a * x.a + x.b * x.b + x.c * x.c = x.n * x.n ∧ x.a * x.d + x.b * x.e + x.c * x.f = 0 ∧ x.e * x.i - x.f * x.h = x.n * x.a ∧ x.f * x.g - x.d * x.i = x.n * x.b ∧ x.d * x.h - x.e * x.g = x.n * x.c) ∧ (x.d * x.d + x.e * x.e + x.f * x.f = x.n * x.n ∧ x.d * x.g + x.e * x.h + x.f * x.i = 0 ∧ x.h * x.c - x.i * x.b = x.n * x.d ∧ x.i * x.a - x.g * x.c = x.n * x.e ∧ x.g * x.b - x.h * x.a = x.n * x.f) ∧ (x.g * x.g + x.h * x.h + x.i * x.i = x.n * x.n ∧ x.g * x.a + x.h * x.b + x.i * x.c = 0 ∧ x.b * x.f - x.c * x.e = x.n * x.g ∧ x.c * x.d - x.a * x.f = x.n * x.h ∧ x.a * x.e - x.b * x.d = x.n * x.i)
theorem Rt.frmR_iff {x : Rt} (h : 1 ≤ x.n) : x.FrmR ↔ x.Frm := by
  constructor
  · rintro ⟨⟨aa, ab, _, _, _⟩, ⟨bb, bc, _, _, _⟩, cc, ca, c0, c1, c2⟩
    refine ⟨⟨aa, bb, cc⟩, ⟨ab, ?_, bc⟩, ?_, ?_, ?_⟩
    · rw [Int.mul_comm x.a x.g, Int.mul_comm x.b x.h, Int.mul_comm x.c x.i]; exact ca
    · rw [c0, Int.mul_comm]
    · rw [c1, Int.mul_comm]
    · rw [c2, Int.mul_comm]
  · rintro ⟨⟨aa, bb, cc⟩, ⟨ab, ac, bc⟩, c0, c1, c2⟩
    have ho : x.Orth := ⟨aa, bb, cc, ab, ac, bc, c0, c1, c2⟩
    obtain ⟨f0, f1, f2⟩ := ho.first h
    obtain ⟨s0, s1, s2⟩ := ho.second h
    refine ⟨⟨aa, ab, f0, f1, f2⟩, ⟨bb, bc, s0, s1, s2⟩, cc, ?_, ?_, ?_, ?_⟩
    · rw [Int.mul_comm x.g x.a, Int.mul_comm x.h x.b, Int.mul_comm x.i x.c]; exact ac
    · rw [c0, Int.mul_comm]
    · rw [c1, Int.mul_comm]
    · rw [c2, Int.mul_comm]
structure A3 (w : World) (b : Nat) (x y z : Int) : Prop where
  c0 : w.cell? ⟨b, 0, none⟩ = some (.int .i64 x)
  c1 : w.cell? ⟨b, 1, none⟩ = some (.int .i64 y)
  c2 : w.cell? ⟨b, 2, none⟩ = some (.int .i64 z)

set_option maxRecDepth 100000 in
set_option maxHeartbeats 16000000 in
theorem rrot_in (x : Rt) (h : x.Rng) (w : World) :
    Calls Try.prog 48 #[.agg #[.int .i64 x.a, .int .i64 x.b, .int .i64 x.c, .int .i64 x.d, .int .i64 x.e, .int .i64 x.f, .int .i64 x.g, .int .i64 x.h, .int .i64 x.i, .int .i64 x.n]] w fun e w' => e = .returned (.int .i64 ((if x.Frm then 0 else 3))) ∧ Below w.heap.size w w' := by
  have hi := Rt.frmR_iff h.1.1
  obtain ⟨⟨n0, n1⟩, ra, rb, rc, rd, re, rf, rg, rh, ri⟩ := h
  generalize hr : (if x.Frm then (0 : Int) else 3) = r
  have HP := Lib.hid (fun k : x.FrmR => show r = 0 by rw [← hr, if_pos (hi.1 k)])
  have HN := Lib.hid (fun k : ¬ x.FrmR => show r = 3 by rw [← hr, if_neg (fun c => k (hi.2 c))])
  unfold Rt.FrmR at HP HN
  clear hr hi
  obtain ⟨xa, xb, xc, xd, xe, xf, xg, xh, xi, xn⟩ := x
  simp only at *
  have RN : Hid (0 ≤ xn ∧ xn ≤ 1000000) := ⟨by omega, n1⟩
  have hin : inB xn 1 1000000 = true := by unfold inB; exact decide_eq_true ⟨n0, n1⟩
  have Ra := Lib.hid ra
  have hia : inB xa (-xn) xn = true := by unfold inB; exact decide_eq_true ra
  clear ra
  have Rb := Lib.hid rb
  have hib : inB xb (-xn) xn = true := by unfold inB; exact decide_eq_true rb
  clear rb
  have Rc := Lib.hid rc
  have hic : inB xc (-xn) xn = true := by unfold inB; exact decide_eq_true rc
  clear rc
  have Rd := Lib.hid rd
  have hid : inB xd (-xn) xn = true := by unfold inB; exact decide_eq_true rd
  clear rd
  have Re := Lib.hid re
  have hie : inB xe (-xn) xn = true := by unfold inB; exact decide_eq_true re
  clear re
  have Rf := Lib.hid rf
  have hif : inB xf (-xn) xn = true := by unfold inB; exact decide_eq_true rf
  clear rf
  have Rg := Lib.hid rg
  have hig : inB xg (-xn) xn = true := by unfold inB; exact decide_eq_true rg
  clear rg
  have Rh := Lib.hid rh
  have hih : inB xh (-xn) xn = true := by unfold inB; exact decide_eq_true rh
  clear rh
  have Ri := Lib.hid ri
  have hii : inB xi (-xn) xn = true := by unfold inB; exact decide_eq_true ri
  clear ri
  obtain ⟨un, vn⟩ := mul_bd RN.out ⟨by omega, Int.le_refl _⟩ ⟨by omega, Int.le_refl _⟩
  go_enter Try.func48, Try.ntmps48
  go_wp2_with (first | (go_at_call 25; with_reducible refine (within_any _ _ _ _).mono ?_; rintro e w' ⟨rfl, rfl⟩))
  refine wp_loop_rounds 4 ?_
  iterate 3 (rw [rounds_succ]; go_wp2_with fail; refine wp_loop_rounds 4 ?_; (iterate 3 (rw [rounds_succ]; go_wp2_with fail; (refine wp_region_quiet (C := Ext _) (by kernel_rfl) (by kernel_rfl) (Ext.start _) ?_; simp only []; (repeat (refine wpQuiet_step (fun K hK => ?_); go_simp; (try go_bits); apply Exists.intro; refine ⟨fun w' hw' => ?_, hK _ ?_⟩; (focus (first | with_reducible exact rfl | (go_at_call 25; (exact Ext.call hw' (Calls.mono (within_any _ _ _ _) same_below))) | (obtain ⟨gx, rfl⟩ := more_of_below (Ext.below hw'); go_simp; exact rfl))); clear hK K)); refine wpQuiet_nil ?_; intro w1 hw1; have hb1 := Ext.below hw1; clear hw1; obtain ⟨g1, rfl⟩ := more_of_below hb1; clear hb1); go_wp2_with fail)); rw [rounds_succ]; go_wp2_with fail)
  rw [rounds_succ]
  go_upto_region 11 with (fail)
  clear hia hib hic hid hie hif hig hih hii hin
  go_cut [5] (fun s5 wx => s5 = .int .i64 0 ∧ ∃ gg, wx = more (w.alloc (.cells #[.int .i64 xa, .int .i64 xb, .int .i64 xc, .int .i64 xd, .int .i64 xe, .int .i64 xf, .int .i64 xg, .int .i64 xh, .int .i64 xi, .int .i64 xn] 68)) gg)
  case first =>
    go_wp2_with fail
    go_meet
    exact ⟨rfl, more_of_below (by (repeat (first | with_reducible assumption | with_reducible exact Below.refl _ _ | with_reducible refine Below.drewN ?_ _ | with_reducible refine Below.drew ?_ | with_reducible refine Below.alloc ?_ (by first | omega | (simp; done) | (simp; omega)) _ | with_reducible refine Below.setCell ?_ (by first | omega | (simp; done) | (simp; omega)) _ | with_reducible refine below_more _ _ ?_ (by first | omega | (simp; done) | (simp; omega)))))⟩
  obtain ⟨rfl, gg, rfl⟩ := hcut
  go_wp2_with fail
  refine wp_loop_rounds 4 ?_
  rw [rounds_succ]
  go_upto_region 14 with (fail)
  go_cut [6, 7, 8] (fun s6 s7 s8 wx => Below (w.heap.size + 1) (w.alloc (.cells #[.int .i64 xa, .int .i64 xb, .int .i64 xc, .int .i64 xd, .int .i64 xe, .int .i64 xf, .int .i64 xg, .int .i64 xh, .int .i64 xi, .int .i64 xn] 68)) wx ∧ ∃ b6 b7 b8, s6 = .pointer (some ⟨b6, 0, none⟩) ∧ s7 = .pointer (some ⟨b7, 0, none⟩) ∧ s8 = .pointer (some ⟨b8, 0, none⟩) ∧ A3 wx b6 xa xb xc ∧ A3 wx b7 xd xe xf ∧ A3 wx b8 xg xh xi ∧ b6 < wx.heap.size ∧ b7 < wx.heap.size ∧ b8 < wx.heap.size)
  case first =>
    generalize hW0 : more (w.alloc (.cells #[.int .i64 xa, .int .i64 xb, .int .i64 xc, .int .i64 xd, .int .i64 xe, .int .i64 xf, .int .i64 xg, .int .i64 xh, .int .i64 xi, .int .i64 xn] 68)) gg = W0
    have hB : Below (w.heap.size + 1) (w.alloc (.cells #[.int .i64 xa, .int .i64 xb, .int .i64 xc, .int .i64 xd, .int .i64 xe, .int .i64 xf, .int .i64 xg, .int .i64 xh, .int .i64 xi, .int .i64 xn] 68)) W0 := by subst hW0; (repeat (first | with_reducible assumption | with_reducible exact Below.refl _ _ | with_reducible refine Below.drewN ?_ _ | with_reducible refine Below.drew ?_ | with_reducible refine Below.alloc ?_ (by first | omega | (simp; done) | (simp; omega)) _ | with_reducible refine Below.setCell ?_ (by first | omega | (simp; done) | (simp; omega)) _ | with_reducible refine below_more _ _ ?_ (by first | omega | (simp; done) | (simp; omega))))
    have hs : w.heap.size + 1 ≤ W0.heap.size := by subst hW0; first | (simp; done) | (simp; omega)
    have hs2 : w.heap.size < W0.heap.size := hs
    have c0 : W0.cell? ⟨w.heap.size, 0, none⟩ = some (.int .i64 xa) := by subst hW0; go_simp
    have c1 : W0.cell? ⟨w.heap.size, 1, none⟩ = some (.int .i64 xb) := by subst hW0; go_simp
    have c2 : W0.cell? ⟨w.heap.size, 2, none⟩ = some (.int .i64 xc) := by subst hW0; go_simp
    have c3 : W0.cell? ⟨w.heap.size, 3, none⟩ = some (.int .i64 xd) := by subst hW0; go_simp
    have c4 : W0.cell? ⟨w.heap.size, 4, none⟩ = some (.int .i64 xe) := by subst hW0; go_simp
    have c5 : W0.cell? ⟨w.heap.size, 5, none⟩ = some (.int .i64 xf) := by subst hW0; go_simp
    have c6 : W0.cell? ⟨w.heap.size, 6, none⟩ = some (.int .i64 xg) := by subst hW0; go_simp
    have c7 : W0.cell? ⟨w.heap.size, 7, none⟩ = some (.int .i64 xh) := by subst hW0; go_simp
    have c8 : W0.cell? ⟨w.heap.size, 8, none⟩ = some (.int .i64 xi) := by subst hW0; go_simp
    have c9 : W0.cell? ⟨w.heap.size, 9, none⟩ = some (.int .i64 xn) := by subst hW0; go_simp
    clear hW0
    go_region
    all_goals (go_wp2_with fail; go_meet; refine ⟨by (repeat (first | with_reducible assumption | with_reducible exact Below.refl _ _ | with_reducible refine Below.drewN ?_ _ | with_reducible refine Below.drew ?_ | with_reducible refine Below.alloc ?_ (by first | omega | (simp; done) | (simp; omega)) _ | with_reducible refine Below.setCell ?_ (by first | omega | (simp; done) | (simp; omega)) _ | with_reducible refine below_more _ _ ?_ (by first | omega | (simp; done) | (simp; omega)))), _, _, _, rfl, rfl, rfl, ⟨?_, ?_, ?_⟩, ⟨?_, ?_, ?_⟩, ⟨?_, ?_, ?_⟩, ?_, ?_, ?_⟩)
    all_goals (first | (go_simp; done) | (simp only [size_more_eq, World.size_alloc, World.size_setCell]; omega) | (simp; omega))
  obtain ⟨hb, b6, b7, b8, rfl, rfl, rfl, ⟨c60, c61, c62⟩, ⟨c70, c71, c72⟩, ⟨c80, c81, c82⟩, l6, l7, l8⟩ := hcut
  obtain ⟨gc0, rfl⟩ := more_of_below' hb (by simp)
  clear hb
  simp only [size_more_eq, World.size_alloc] at l6 l7 l8
  have D0 := Lib.hid (fun w => rdot_in xa xb xc xa xb xc RN.out Ra.out Rb.out Rc.out Ra.out Rb.out Rc.out w)
  have D1 := Lib.hid (fun w => rdot_in xa xb xc xd xe xf RN.out Ra.out Rb.out Rc.out Rd.out Re.out Rf.out w)
  rcases Bool.eq_false_or_eq_true (xa * xa + xb * xb + xc * xc != xn * xn) with hA0 | hA0
  · have hB0 : (xa * xa + xb * xb + xc * xc == xn * xn) = false := by simpa using hA0
    have hC0 : ¬ xa * xa + xb * xb + xc * xc = xn * xn := by simpa using hA0
    have hD0 : decide (xa * xa + xb * xb + xc * xc = xn * xn) = false := decide_eq_false hC0
    go_wp2_with fail
    (refine wp_region_quiet (C := Ext _) (by kernel_rfl) (by kernel_rfl) (Ext.start _) ?_; simp only []; (repeat (first | (refine wpQuiet_step (fun K hK => ?_); go_simp; (try go_bits); apply Exists.intro; refine ⟨fun w' hw' => ?_, hK _ ?_⟩; (focus (first | with_reducible exact rfl | (go_at_call 95; (first | with_reducible exact Ext.call hw' (D0.out _) | with_reducible exact Ext.call hw' (D1.out _))) | (obtain ⟨gx, rfl⟩ := more_of_below (Ext.below hw'); go_simp; exact rfl))); clear hK K) | (refine wpQuiet_step (fun K hK => ?_); go_simp; refine hK _ ?_; clear hK K))); refine wpQuiet_nil ?_; intro w13 hw13; have hb13 := Ext.below hw13; clear hw13; obtain ⟨g13, rfl⟩ := more_of_below hb13; clear hb13)
    go_wp2_with fail
    ((first | ((have hne : ¬ xa * xa + xb * xb + xc * xc = xn * xn := by assumption)) | ((have hne : (xa * xa + xb * xb + xc * xc != xn * xn) = true := by assumption); rw [bne_iff_ne] at hne)); (have e : r = 3 := HN.out (fun hF => hne (by omega))); (subst e); go_ret; exact ⟨rfl, by (repeat (first | with_reducible assumption | with_reducible exact Below.refl _ _ | with_reducible refine Below.drewN ?_ _ | with_reducible refine Below.drew ?_ | with_reducible refine Below.alloc ?_ (by first | omega | (simp; done) | (simp; omega)) _ | with_reducible refine Below.setCell ?_ (by first | omega | (simp; done) | (simp; omega)) _ | with_reducible refine below_more _ _ ?_ (by first | omega | (simp; done) | (simp; omega))))⟩)
  have hB0 : (xa * xa + xb * xb + xc * xc == xn * xn) = true := by simpa using hA0
  have hD0 : decide (xa * xa + xb * xb + xc * xc = xn * xn) = true := by simpa using hA0
  go_wp2_with fail
  (refine wp_region_quiet (C := Ext _) (by kernel_rfl) (by kernel_rfl) (Ext.start _) ?_; simp only []; (repeat (refine wpQuiet_step (fun K hK => ?_); go_simp; (try go_bits); apply Exists.intro; refine ⟨fun w' hw' => ?_, hK _ ?_⟩; (focus (first | with_reducible exact rfl | (go_at_call 95; (first | with_reducible exact Ext.call hw' (D0.out _) | with_reducible exact Ext.call hw' (D1.out _))) | (obtain ⟨gx, rfl⟩ := more_of_below (Ext.below hw'); go_simp; exact rfl))); clear hK K)); refine wpQuiet_nil ?_; intro w13 hw13; have hb13 := Ext.below hw13; clear hw13; obtain ⟨g13, rfl⟩ := more_of_below hb13; clear hb13)
  clear D0 D1 hB0 hD0
  go_wp2_with fail
  any_goals ((first | ((have hne : ¬ xa * xd + xb * xe + xc * xf = 0 := by assumption)) | ((have hne : (xa * xd + xb * xe + xc * xf != 0) = true := by assumption); rw [bne_iff_ne] at hne)); (have e : r = 3 := HN.out (fun hF => hne (by omega))); (subst e); go_ret; exact ⟨rfl, by (repeat (first | with_reducible assumption | with_reducible exact Below.refl _ _ | with_reducible refine Below.drewN ?_ _ | with_reducible refine Below.drew ?_ | with_reducible refine Below.alloc ?_ (by first | omega | (simp; done) | (simp; omega)) _ | with_reducible refine Below.setCell ?_ (by first | omega | (simp; done) | (simp; omega)) _ | with_reducible refine below_more _ _ ?_ (by first | omega | (simp; done) | (simp; omega))))⟩)
  refine wp_loop_rounds 4 ?_
  have n2 : -xn ≤ xn ∧ xn ≤ xn := ⟨by omega, Int.le_refl _⟩
  obtain ⟨u0, v0⟩ := mul_bd RN.out Re.out Ri.out
  obtain ⟨u1, v1⟩ := mul_bd RN.out Rf.out Rh.out
  obtain ⟨u2, v2⟩ := mul_bd RN.out n2 Ra.out
  clear n2
  rw [rounds_succ]
  go_wp2_with fail
  (refine wp_region_quiet (C := Ext _) (by kernel_rfl) (by kernel_rfl) (Ext.start _) ?_; simp only []; (repeat (refine wpQuiet_step (fun K hK => ?_); go_simp; (try go_bits); apply Exists.intro; refine ⟨fun w' hw' => ?_, hK _ ?_⟩; (focus (first | with_reducible exact rfl | (obtain ⟨gx, rfl⟩ := more_of_below (Ext.below hw'); go_simp; exact rfl))); clear hK K)); refine wpQuiet_nil ?_; intro w14 hw14; have hb14 := Ext.below hw14; clear hw14; obtain ⟨g14, rfl⟩ := more_of_below hb14; clear hb14)
  go_wp2_with fail
  any_goals ((first | ((have hne : ¬ xe * xi - xf * xh = xn * xa := by assumption)) | ((have hne : (xe * xi - xf * xh != xn * xa) = true := by assumption); rw [bne_iff_ne] at hne)); (have e : r = 3 := HN.out (fun hF => hne (by omega))); (subst e); go_ret; exact ⟨rfl, by (repeat (first | with_reducible assumption | with_reducible exact Below.refl _ _ | with_reducible refine Below.drewN ?_ _ | with_reducible refine Below.drew ?_ | with_reducible refine Below.alloc ?_ (by first | omega | (simp; done) | (simp; omega)) _ | with_reducible refine Below.setCell ?_ (by first | omega | (simp; done) | (simp; omega)) _ | with_reducible refine below_more _ _ ?_ (by first | omega | (simp; done) | (simp; omega))))⟩)
  clear u0 v0 u1 v1 u2 v2
  have n2 : -xn ≤ xn ∧ xn ≤ xn := ⟨by omega, Int.le_refl _⟩
  obtain ⟨u0, v0⟩ := mul_bd RN.out Rf.out Rg.out
  obtain ⟨u1, v1⟩ := mul_bd RN.out Rd.out Ri.out
  obtain ⟨u2, v2⟩ := mul_bd RN.out n2 Rb.out
  clear n2
  rw [rounds_succ]
  go_wp2_with fail
  (refine wp_region_quiet (C := Ext _) (by kernel_rfl) (by kernel_rfl) (Ext.start _) ?_; simp only []; (repeat (refine wpQuiet_step (fun K hK => ?_); go_simp; (try go_bits); apply Exists.intro; refine ⟨fun w' hw' => ?_, hK _ ?_⟩; (focus (first | with_reducible exact rfl | (obtain ⟨gx, rfl⟩ := more_of_below (Ext.below hw'); go_simp; exact rfl))); clear hK K)); refine wpQuiet_nil ?_; intro w15 hw15; have hb15 := Ext.below hw15; clear hw15; obtain ⟨g15, rfl⟩ := more_of_below hb15; clear hb15)
  go_wp2_with fail
  any_goals ((first | ((have hne : ¬ xf * xg - xd * xi = xn * xb := by assumption)) | ((have hne : (xf * xg - xd * xi != xn * xb) = true := by assumption); rw [bne_iff_ne] at hne)); (have e : r = 3 := HN.out (fun hF => hne (by omega))); (subst e); go_ret; exact ⟨rfl, by (repeat (first | with_reducible assumption | with_reducible exact Below.refl _ _ | with_reducible refine Below.drewN ?_ _ | with_reducible refine Below.drew ?_ | with_reducible refine Below.alloc ?_ (by first | omega | (simp; done) | (simp; omega)) _ | with_reducible refine Below.setCell ?_ (by first | omega | (simp; done) | (simp; omega)) _ | with_reducible refine below_more _ _ ?_ (by first | omega | (simp; done) | (simp; omega))))⟩)
  clear u0 v0 u1 v1 u2 v2
  have n2 : -xn ≤ xn ∧ xn ≤ xn := ⟨by omega, Int.le_refl _⟩
  obtain ⟨u0, v0⟩ := mul_bd RN.out Rd.out Rh.out
  obtain ⟨u1, v1⟩ := mul_bd RN.out Re.out Rg.out
  obtain ⟨u2, v2⟩ := mul_bd RN.out n2 Rc.out
  clear n2
  rw [rounds_succ]
  go_wp2_with fail
  (refine wp_region_quiet (C := Ext _) (by kernel_rfl) (by kernel_rfl) (Ext.start _) ?_; simp only []; (repeat (refine wpQuiet_step (fun K hK => ?_); go_simp; (try go_bits); apply Exists.intro; refine ⟨fun w' hw' => ?_, hK _ ?_⟩; (focus (first | with_reducible exact rfl | (obtain ⟨gx, rfl⟩ := more_of_below (Ext.below hw'); go_simp; exact rfl))); clear hK K)); refine wpQuiet_nil ?_; intro w16 hw16; have hb16 := Ext.below hw16; clear hw16; obtain ⟨g16, rfl⟩ := more_of_below hb16; clear hb16)
  go_wp2_with fail
  any_goals ((first | ((have hne : ¬ xd * xh - xe * xg = xn * xc := by assumption)) | ((have hne : (xd * xh - xe * xg != xn * xc) = true := by assumption); rw [bne_iff_ne] at hne)); (have e : r = 3 := HN.out (fun hF => hne (by omega))); (subst e); go_ret; exact ⟨rfl, by (repeat (first | with_reducible assumption | with_reducible exact Below.refl _ _ | with_reducible refine Below.drewN ?_ _ | with_reducible refine Below.drew ?_ | with_reducible refine Below.alloc ?_ (by first | omega | (simp; done) | (simp; omega)) _ | with_reducible refine Below.setCell ?_ (by first | omega | (simp; done) | (simp; omega)) _ | with_reducible refine below_more _ _ ?_ (by first | omega | (simp; done) | (simp; omega))))⟩)
  clear u0 v0 u1 v1 u2 v2
  rw [rounds_succ]
  go_wp2_with fail
  clear c60 c61 c62 c70 c71 c72 c80 c81 c82 l6 l7 l8
  rw [rounds_succ]
  go_upto_region 14 with (fail)
  go_cut [6, 7, 8] (fun s6 s7 s8 wx => Below (w.heap.size + 1) (w.alloc (.cells #[.int .i64 xa, .int .i64 xb, .int .i64 xc, .int .i64 xd, .int .i64 xe, .int .i64 xf, .int .i64 xg, .int .i64 xh, .int .i64 xi, .int .i64 xn] 68)) wx ∧ ∃ b6 b7 b8, s6 = .pointer (some ⟨b6, 0, none⟩) ∧ s7 = .pointer (some ⟨b7, 0, none⟩) ∧ s8 = .pointer (some ⟨b8, 0, none⟩) ∧ A3 wx b6 xd xe xf ∧ A3 wx b7 xg xh xi ∧ A3 wx b8 xa xb xc ∧ b6 < wx.heap.size ∧ b7 < wx.heap.size ∧ b8 < wx.heap.size)
  case first =>
    generalize hW0 : (more (more (more (more (more (w.alloc (.cells #[.int .i64 xa, .int .i64 xb, .int .i64 xc, .int .i64 xd, .int .i64 xe, .int .i64 xf, .int .i64 xg, .int .i64 xh, .int .i64 xi, .int .i64 xn] 68)) gc0) g13) g14) g15) g16) = W0
    have hB : Below (w.heap.size + 1) (w.alloc (.cells #[.int .i64 xa, .int .i64 xb, .int .i64 xc, .int .i64 xd, .int .i64 xe, .int .i64 xf, .int .i64 xg, .int .i64 xh, .int .i64 xi, .int .i64 xn] 68)) W0 := by subst hW0; (repeat (first | with_reducible assumption | with_reducible exact Below.refl _ _ | with_reducible refine Below.drewN ?_ _ | with_reducible refine Below.drew ?_ | with_reducible refine Below.alloc ?_ (by first | omega | (simp; done) | (simp; omega)) _ | with_reducible refine Below.setCell ?_ (by first | omega | (simp; done) | (simp; omega)) _ | with_reducible refine below_more _ _ ?_ (by first | omega | (simp; done) | (simp; omega))))
    have hs : w.heap.size + 1 ≤ W0.heap.size := by subst hW0; first | (simp; done) | (simp; omega)
    have hs2 : w.heap.size < W0.heap.size := hs
    have c0 : W0.cell? ⟨w.heap.size, 0, none⟩ = some (.int .i64 xa) := by subst hW0; go_simp
    have c1 : W0.cell? ⟨w.heap.size, 1, none⟩ = some (.int .i64 xb) := by subst hW0; go_simp
    have c2 : W0.cell? ⟨w.heap.size, 2, none⟩ = some (.int .i64 xc) := by subst hW0; go_simp
    have c3 : W0.cell? ⟨w.heap.size, 3, none⟩ = some (.int .i64 xd) := by subst hW0; go_simp
    have c4 : W0.cell? ⟨w.heap.size, 4, none⟩ = some (.int .i64 xe) := by subst hW0; go_simp
    have c5 : W0.cell? ⟨w.heap.size, 5, none⟩ = some (.int .i64 xf) := by subst hW0; go_simp
    have c6 : W0.cell? ⟨w.heap.size, 6, none⟩ = some (.int .i64 xg) := by subst hW0; go_simp
    have c7 : W0.cell? ⟨w.heap.size, 7, none⟩ = some (.int .i64 xh) := by subst hW0; go_simp
    have c8 : W0.cell? ⟨w.heap.size, 8, none⟩ = some (.int .i64 xi) := by subst hW0; go_simp
    have c9 : W0.cell? ⟨w.heap.size, 9, none⟩ = some (.int .i64 xn) := by subst hW0; go_simp
    clear hW0
    go_region
    all_goals (go_wp2_with fail; go_meet; refine ⟨by (repeat (first | with_reducible assumption | with_reducible exact Below.refl _ _ | with_reducible refine Below.drewN ?_ _ | with_reducible refine Below.drew ?_ | with_reducible refine Below.alloc ?_ (by first | omega | (simp; done) | (simp; omega)) _ | with_reducible refine Below.setCell ?_ (by first | omega | (simp; done) | (simp; omega)) _ | with_reducible refine below_more _ _ ?_ (by first | omega | (simp; done) | (simp; omega)))), _, _, _, rfl, rfl, rfl, ⟨?_, ?_, ?_⟩, ⟨?_, ?_, ?_⟩, ⟨?_, ?_, ?_⟩, ?_, ?_, ?_⟩)
    all_goals (first | (go_simp; done) | (simp only [size_more_eq, World.size_alloc, World.size_setCell]; omega) | (simp; omega))
  obtain ⟨hb, b6, b7, b8, rfl, rfl, rfl, ⟨c60, c61, c62⟩, ⟨c70, c71, c72⟩, ⟨c80, c81, c82⟩, l6, l7, l8⟩ := hcut
  obtain ⟨gc1, rfl⟩ := more_of_below' hb (by simp)
  clear hb
  simp only [size_more_eq, World.size_alloc] at l6 l7 l8
  have D0 := Lib.hid (fun w => rdot_in xd xe xf xd xe xf RN.out Rd.out Re.out Rf.out Rd.out Re.out Rf.out w)
  have D1 := Lib.hid (fun w => rdot_in xd xe xf xg xh xi RN.out Rd.out Re.out Rf.out Rg.out Rh.out Ri.out w)
  rcases Bool.eq_false_or_eq_true (xd * xd + xe * xe + xf * xf != xn * xn) with hA1 | hA1
  · have hB1 : (xd * xd + xe * xe + xf * xf == xn * xn) = false := by simpa using hA1
    have hC1 : ¬ xd * xd + xe * xe + xf * xf = xn * xn := by simpa using hA1
    have hD1 : decide (xd * xd + xe * xe + xf * xf = xn * xn) = false := decide_eq_false hC1
    go_wp2_with fail
    (refine wp_region_quiet (C := Ext _) (by kernel_rfl) (by kernel_rfl) (Ext.start _) ?_; simp only []; (repeat (first | (refine wpQuiet_step (fun K hK => ?_); go_simp; (try go_bits); apply Exists.intro; refine ⟨fun w' hw' => ?_, hK _ ?_⟩; (focus (first | with_reducible exact rfl | (go_at_call 95; (first | with_reducible exact Ext.call hw' (D0.out _) | with_reducible exact Ext.call hw' (D1.out _))) | (obtain ⟨gx, rfl⟩ := more_of_below (Ext.below hw'); go_simp; exact rfl))); clear hK K) | (refine wpQuiet_step (fun K hK => ?_); go_simp; refine hK _ ?_; clear hK K))); refine wpQuiet_nil ?_; intro w23 hw23; have hb23 := Ext.below hw23; clear hw23; obtain ⟨g23, rfl⟩ := more_of_below hb23; clear hb23)
    go_wp2_with fail
    ((first | ((have hne : ¬ xd * xd + xe * xe + xf * xf = xn * xn := by assumption)) | ((have hne : (xd * xd + xe * xe + xf * xf != xn * xn) = true := by assumption); rw [bne_iff_ne] at hne)); (have e : r = 3 := HN.out (fun hF => hne (by omega))); (subst e); go_ret; exact ⟨rfl, by (repeat (first | with_reducible assumption | with_reducible exact Below.refl _ _ | with_reducible refine Below.drewN ?_ _ | with_reducible refine Below.drew ?_ | with_reducible refine Below.alloc ?_ (by first | omega | (simp; done) | (simp; omega)) _ | with_reducible refine Below.setCell ?_ (by first | omega | (simp; done) | (simp; omega)) _ | with_reducible refine below_more _ _ ?_ (by first | omega | (simp; done) | (simp; omega))))⟩)
  have hB1 : (xd * xd + xe * xe + xf * xf == xn * xn) = true := by simpa using hA1
  have hD1 : decide (xd * xd + xe * xe + xf * xf = xn * xn) = true := by simpa using hA1
  go_wp2_with fail
  (refine wp_region_quiet (C := Ext _) (by kernel_rfl) (by kernel_rfl) (Ext.start _) ?_; simp only []; (repeat (refine wpQuiet_step (fun K hK => ?_); go_simp; (try go_bits); apply Exists.intro; refine ⟨fun w' hw' => ?_, hK _ ?_⟩; (focus (first | with_reducible exact rfl | (go_at_call 95; (first | with_reducible exact Ext.call hw' (D0.out _) | with_reducible exact Ext.call hw' (D1.out _))) | (obtain ⟨gx, rfl⟩ := more_of_below (Ext.below hw'); go_simp; exact rfl))); clear hK K)); refine wpQuiet_nil ?_; intro w23 hw23; have hb23 := Ext.below hw23; clear hw23; obtain ⟨g23, rfl⟩ := more_of_below hb23; clear hb23)
  clear D0 D1 hB1 hD1
  go_wp2_with fail
  any_goals ((first | ((have hne : ¬ xd * xg + xe * xh + xf * xi = 0 := by assumption)) | ((have hne : (xd * xg + xe * xh + xf * xi != 0) = true := by assumption); rw [bne_iff_ne] at hne)); (have e : r = 3 := HN.out (fun hF => hne (by omega))); (subst e); go_ret; exact ⟨rfl, by (repeat (first | with_reducible assumption | with_reducible exact Below.refl _ _ | with_reducible refine Below.drewN ?_ _ | with_reducible refine Below.drew ?_ | with_reducible refine Below.alloc ?_ (by first | omega | (simp; done) | (simp; omega)) _ | with_reducible refine Below.setCell ?_ (by first | omega | (simp; done) | (simp; omega)) _ | with_reducible refine below_more _ _ ?_ (by first | omega | (simp; done) | (simp; omega))))⟩)
  refine wp_loop_rounds 4 ?_
  have n2 : -xn ≤ xn ∧ xn ≤ xn := ⟨by omega, Int.le_refl _⟩
  obtain ⟨u0, v0⟩ := mul_bd RN.out Rh.out Rc.out
  obtain ⟨u1, v1⟩ := mul_bd RN.out Ri.out Rb.out
  obtain ⟨u2, v2⟩ := mul_bd RN.out n2 Rd.out
  clear n2
  rw [rounds_succ]
  go_wp2_with fail
  (refine wp_region_quiet (C := Ext _) (by kernel_rfl) (by kernel_rfl) (Ext.start _) ?_; simp only []; (repeat (refine wpQuiet_step (fun K hK => ?_); go_simp; (try go_bits); apply Exists.intro; refine ⟨fun w' hw' => ?_, hK _ ?_⟩; (focus (first | with_reducible exact rfl | (obtain ⟨gx, rfl⟩ := more_of_below (Ext.below hw'); go_simp; exact rfl))); clear hK K)); refine wpQuiet_nil ?_; intro w24 hw24; have hb24 := Ext.below hw24; clear hw24; obtain ⟨g24, rfl⟩ := more_of_below hb24; clear hb24)
  go_wp2_with fail
  any_goals ((first | ((have hne : ¬ xh * xc - xi * xb = xn * xd := by assumption)) | ((have hne : (xh * xc - xi * xb != xn * xd) = true := by assumption); rw [bne_iff_ne] at hne)); (have e : r = 3 := HN.out (fun hF => hne (by omega))); (subst e); go_ret; exact ⟨rfl, by (repeat (first | with_reducible assumption | with_reducible exact Below.refl _ _ | with_reducible refine Below.drewN ?_ _ | with_reducible refine Below.drew ?_ | with_reducible refine Below.alloc ?_ (by first | omega | (simp; done) | (simp; omega)) _ | with_reducible refine Below.setCell ?_ (by first | omega | (simp; done) | (simp; omega)) _ | with_reducible refine below_more _ _ ?_ (by first | omega | (simp; done) | (simp; omega))))⟩)
  clear u0 v0 u1 v1 u2 v2
  have n2 : -xn ≤ xn ∧ xn ≤ xn := ⟨by omega, Int.le_refl _⟩
  obtain ⟨u0, v0⟩ := mul_bd RN.out Ri.out Ra.out
  obtain ⟨u1, v1⟩ := mul_bd RN.out Rg.out Rc.out
  obtain ⟨u2, v2⟩ := mul_bd RN.out n2 Re.out
  clear n2
  rw [rounds_succ]
  go_wp2_with fail
  (refine wp_region_quiet (C := Ext _) (by kernel_rfl) (by kernel_rfl) (Ext.start _) ?_; simp only []; (repeat (refine wpQuiet_step (fun K hK => ?_); go_simp; (try go_bits); apply Exists.intro; refine ⟨fun w' hw' => ?_, hK _ ?_⟩; (focus (first | with_reducible exact rfl | (obtain ⟨gx, rfl⟩ := more_of_below (Ext.below hw'); go_simp; exact rfl))); clear hK K)); refine wpQuiet_nil ?_; intro w25 hw25; have hb25 := Ext.below hw25; clear hw25; obtain ⟨g25, rfl⟩ := more_of_below hb25; clear hb25)
  go_wp2_with fail
  any_goals ((first | ((have hne : ¬ xi * xa - xg * xc = xn * xe := by assumption)) | ((have hne : (xi * xa - xg * xc != xn * xe) = true := by assumption); rw [bne_iff_ne] at hne)); (have e : r = 3 := HN.out (fun hF => hne (by omega))); (subst e); go_ret; exact ⟨rfl, by (repeat (first | with_reducible assumption | with_reducible exact Below.refl _ _ | with_reducible refine Below.drewN ?_ _ | with_reducible refine Below.drew ?_ | with_reducible refine Below.alloc ?_ (by first | omega | (simp; done) | (simp; omega)) _ | with_reducible refine Below.setCell ?_ (by first | omega | (simp; done) | (simp; omega)) _ | with_reducible refine below_more _ _ ?_ (by first | omega | (simp; done) | (simp; omega))))⟩)
  clear u0 v0 u1 v1 u2 v2
  have n2 : -xn ≤ xn ∧ xn ≤ xn := ⟨by omega, Int.le_refl _⟩
  obtain ⟨u0, v0⟩ := mul_bd RN.out Rg.out Rb.out
  obtain ⟨u1, v1⟩ := mul_bd RN.out Rh.out Ra.out
  obtain ⟨u2, v2⟩ := mul_bd RN.out n2 Rf.out
  clear n2
  rw [rounds_succ]
  go_wp2_with fail
  (refine wp_region_quiet (C := Ext _) (by kernel_rfl) (by kernel_rfl) (Ext.start _) ?_; simp only []; (repeat (refine wpQuiet_step (fun K hK => ?_); go_simp; (try go_bits); apply Exists.intro; refine ⟨fun w' hw' => ?_, hK _ ?_⟩; (focus (first | with_reducible exact rfl | (obtain ⟨gx, rfl⟩ := more_of_below (Ext.below hw'); go_simp; exact rfl))); clear hK K)); refine wpQuiet_nil ?_; intro w26 hw26; have hb26 := Ext.below hw26; clear hw26; obtain ⟨g26, rfl⟩ := more_of_below hb26; clear hb26)
  go_wp2_with fail
  any_goals ((first | ((have hne : ¬ xg * xb - xh * xa = xn * xf := by assumption)) | ((have hne : (xg * xb - xh * xa != xn * xf) = true := by assumption); rw [bne_iff_ne] at hne)); (have e : r = 3 := HN.out (fun hF => hne (by omega))); (subst e); go_ret; exact ⟨rfl, by (repeat (first | with_reducible assumption | with_reducible exact Below.refl _ _ | with_reducible refine Below.drewN ?_ _ | with_reducible refine Below.drew ?_ | with_reducible refine Below.alloc ?_ (by first | omega | (simp; done) | (simp; omega)) _ | with_reducible refine Below.setCell ?_ (by first | omega | (simp; done) | (simp; omega)) _ | with_reducible refine below_more _ _ ?_ (by first | omega | (simp; done) | (simp; omega))))⟩)
  clear u0 v0 u1 v1 u2 v2
  rw [rounds_succ]
  go_wp2_with fail
  clear c60 c61 c62 c70 c71 c72 c80 c81 c82 l6 l7 l8
  rw [rounds_succ]
  go_upto_region 14 with (fail)
  go_cut [6, 7, 8] (fun s6 s7 s8 wx => Below (w.heap.size + 1) (w.alloc (.cells #[.int .i64 xa, .int .i64 xb, .int .i64 xc, .int .i64 xd, .int .i64 xe, .int .i64 xf, .int .i64 xg, .int .i64 xh, .int .i64 xi, .int .i64 xn] 68)) wx ∧ ∃ b6 b7 b8, s6 = .pointer (some ⟨b6, 0, none⟩) ∧ s7 = .pointer (some ⟨b7, 0, none⟩) ∧ s8 = .pointer (some ⟨b8, 0, none⟩) ∧ A3 wx b6 xg xh xi ∧ A3 wx b7 xa xb xc ∧ A3 wx b8 xd xe xf ∧ b6 < wx.heap.size ∧ b7 < wx.heap.size ∧ b8 < wx.heap.size)
  case first =>
    generalize hW0 : (more (more (more (more (more (w.alloc (.cells #[.int .i64 xa, .int .i64 xb, .int .i64 xc, .int .i64 xd, .int .i64 xe, .int .i64 xf, .int .i64 xg, .int .i64 xh, .int .i64 xi, .int .i64 xn] 68)) gc1) g23) g24) g25) g26) = W0
    have hB : Below (w.heap.size + 1) (w.alloc (.cells #[.int .i64 xa, .int .i64 xb, .int .i64 xc, .int .i64 xd, .int .i64 xe, .int .i64 xf, .int .i64 xg, .int .i64 xh, .int .i64 xi, .int .i64 xn] 68)) W0 := by subst hW0; (repeat (first | with_reducible assumption | with_reducible exact Below.refl _ _ | with_reducible refine Below.drewN ?_ _ | with_reducible refine Below.drew ?_ | with_reducible refine Below.alloc ?_ (by first | omega | (simp; done) | (simp; omega)) _ | with_reducible refine Below.setCell ?_ (by first | omega | (simp; done) | (simp; omega)) _ | with_reducible refine below_more _ _ ?_ (by first | omega | (simp; done) | (simp; omega))))
    have hs : w.heap.size + 1 ≤ W0.heap.size := by subst hW0; first | (simp; done) | (simp; omega)
    have hs2 : w.heap.size < W0.heap.size := hs
    have c0 : W0.cell? ⟨w.heap.size, 0, none⟩ = some (.int .i64 xa) := by subst hW0; go_simp
    have c1 : W0.cell? ⟨w.heap.size, 1, none⟩ = some (.int .i64 xb) := by subst hW0; go_simp
    have c2 : W0.cell? ⟨w.heap.size, 2, none⟩ = some (.int .i64 xc) := by subst hW0; go_simp
    have c3 : W0.cell? ⟨w.heap.size, 3, none⟩ = some (.int .i64 xd) := by subst hW0; go_simp
    have c4 : W0.cell? ⟨w.heap.size, 4, none⟩ = some (.int .i64 xe) := by subst hW0; go_simp
    have c5 : W0.cell? ⟨w.heap.size, 5, none⟩ = some (.int .i64 xf) := by subst hW0; go_simp
    have c6 : W0.cell? ⟨w.heap.size, 6, none⟩ = some (.int .i64 xg) := by subst hW0; go_simp
    have c7 : W0.cell? ⟨w.heap.size, 7, none⟩ = some (.int .i64 xh) := by subst hW0; go_simp
    have c8 : W0.cell? ⟨w.heap.size, 8, none⟩ = some (.int .i64 xi) := by subst hW0; go_simp
    have c9 : W0.cell? ⟨w.heap.size, 9, none⟩ = some (.int .i64 xn) := by subst hW0; go_simp
    clear hW0
    go_region
    all_goals (go_wp2_with fail; go_meet; refine ⟨by (repeat (first | with_reducible assumption | with_reducible exact Below.refl _ _ | with_reducible refine Below.drewN ?_ _ | with_reducible refine Below.drew ?_ | with_reducible refine Below.alloc ?_ (by first | omega | (simp; done) | (simp; omega)) _ | with_reducible refine Below.setCell ?_ (by first | omega | (simp; done) | (simp; omega)) _ | with_reducible refine below_more _ _ ?_ (by first | omega | (simp; done) | (simp; omega)))), _, _, _, rfl, rfl, rfl, ⟨?_, ?_, ?_⟩, ⟨?_, ?_, ?_⟩, ⟨?_, ?_, ?_⟩, ?_, ?_, ?_⟩)
    all_goals (first | (go_simp; done) | (simp only [size_more_eq, World.size_alloc, World.size_setCell]; omega) | (simp; omega))
  obtain ⟨hb, b6, b7, b8, rfl, rfl, rfl, ⟨c60, c61, c62⟩, ⟨c70, c71, c72⟩, ⟨c80, c81, c82⟩, l6, l7, l8⟩ := hcut
  obtain ⟨gc2, rfl⟩ := more_of_below' hb (by simp)
  clear hb
  simp only [size_more_eq, World.size_alloc] at l6 l7 l8
  have D0 := Lib.hid (fun w => rdot_in xg xh xi xg xh xi RN.out Rg.out Rh.out Ri.out Rg.out Rh.out Ri.out w)
  have D1 := Lib.hid (fun w => rdot_in xg xh xi xa xb xc RN.out Rg.out Rh.out Ri.out Ra.out Rb.out Rc.out w)
  rcases Bool.eq_false_or_eq_true (xg * xg + xh * xh + xi * xi != xn * xn) with hA2 | hA2
  · have hB2 : (xg * xg + xh * xh + xi * xi == xn * xn) = false := by simpa using hA2
    have hC2 : ¬ xg * xg + xh * xh + xi * xi = xn * xn := by simpa using hA2
    have hD2 : decide (xg * xg + xh * xh + xi * xi = xn * xn) = false := decide_eq_false hC2
    go_wp2_with fail
    (refine wp_region_quiet (C := Ext _) (by kernel_rfl) (by kernel_rfl) (Ext.start _) ?_; simp only []; (repeat (first | (refine wpQuiet_step (fun K hK => ?_); go_simp; (try go_bits); apply Exists.intro; refine ⟨fun w' hw' => ?_, hK _ ?_⟩; (focus (first | with_reducible exact rfl | (go_at_call 95; (first | with_reducible exact Ext.call hw' (D0.out _) | with_reducible exact Ext.call hw' (D1.out _))) | (obtain ⟨gx, rfl⟩ := more_of_below (Ext.below hw'); go_simp; exact rfl))); clear hK K) | (refine wpQuiet_step (fun K hK => ?_); go_simp; refine hK _ ?_; clear hK K))); refine wpQuiet_nil ?_; intro w33 hw33; have hb33 := Ext.below hw33; clear hw33; obtain ⟨g33, rfl⟩ := more_of_below hb33; clear hb33)
    go_wp2_with fail
    ((first | ((have hne : ¬ xg * xg + xh * xh + xi * xi = xn * xn := by assumption)) | ((have hne : (xg * xg + xh * xh + xi * xi != xn * xn) = true := by assumption); rw [bne_iff_ne] at hne)); (have e : r = 3 := HN.out (fun hF => hne (by omega))); (subst e); go_ret; exact ⟨rfl, by (repeat (first | with_reducible assumption | with_reducible exact Below.refl _ _ | with_reducible refine Below.drewN ?_ _ | with_reducible refine Below.drew ?_ | with_reducible refine Below.alloc ?_ (by first | omega | (simp; done) | (simp; omega)) _ | with_reducible refine Below.setCell ?_ (by first | omega | (simp; done) | (simp; omega)) _ | with_reducible refine below_more _ _ ?_ (by first | omega | (simp; done) | (simp; omega))))⟩)
  have hB2 : (xg * xg + xh * xh + xi * xi == xn * xn) = true := by simpa using hA2
  have hD2 : decide (xg * xg + xh * xh + xi * xi = xn * xn) = true := by simpa using hA2
  go_wp2_with fail
  (refine wp_region_quiet (C := Ext _) (by kernel_rfl) (by kernel_rfl) (Ext.start _) ?_; simp only []; (repeat (refine wpQuiet_step (fun K hK => ?_); go_simp; (try go_bits); apply Exists.intro; refine ⟨fun w' hw' => ?_, hK _ ?_⟩; (focus (first | with_reducible exact rfl | (go_at_call 95; (first | with_reducible exact Ext.call hw' (D0.out _) | with_reducible exact Ext.call hw' (D1.out _))) | (obtain ⟨gx, rfl⟩ := more_of_below (Ext.below hw'); go_simp; exact rfl))); clear hK K)); refine wpQuiet_nil ?_; intro w33 hw33; have hb33 := Ext.below hw33; clear hw33; obtain ⟨g33, rfl⟩ := more_of_below hb33; clear hb33)
  clear D0 D1 hB2 hD2
  go_wp2_with fail
  any_goals ((first | ((have hne : ¬ xg * xa + xh * xb + xi * xc = 0 := by assumption)) | ((have hne : (xg * xa + xh * xb + xi * xc != 0) = true := by assumption); rw [bne_iff_ne] at hne)); (have e : r = 3 := HN.out (fun hF => hne (by omega))); (subst e); go_ret; exact ⟨rfl, by (repeat (first | with_reducible assumption | with_reducible exact Below.refl _ _ | with_reducible refine Below.drewN ?_ _ | with_reducible refine Below.drew ?_ | with_reducible refine Below.alloc ?_ (by first | omega | (simp; done) | (simp; omega)) _ | with_reducible refine Below.setCell ?_ (by first | omega | (simp; done) | (simp; omega)) _ | with_reducible refine below_more _ _ ?_ (by first | omega | (simp; done) | (simp; omega))))⟩)
  refine wp_loop_rounds 4 ?_
  have n2 : -xn ≤ xn ∧ xn ≤ xn := ⟨by omega, Int.le_refl _⟩
  obtain ⟨u0, v0⟩ := mul_bd RN.out Rb.out Rf.out
  obtain ⟨u1, v1⟩ := mul_bd RN.out Rc.out Re.out
  obtain ⟨u2, v2⟩ := mul_bd RN.out n2 Rg.out
  clear n2
  rw [rounds_succ]
  go_wp2_with fail
  (refine wp_region_quiet (C := Ext _) (by kernel_rfl) (by kernel_rfl) (Ext.start _) ?_; simp only []; (repeat (refine wpQuiet_step (fun K hK => ?_); go_simp; (try go_bits); apply Exists.intro; refine ⟨fun w' hw' => ?_, hK _ ?_⟩; (focus (first | with_reducible exact rfl | (obtain ⟨gx, rfl⟩ := more_of_below (Ext.below hw'); go_simp; exact rfl))); clear hK K)); refine wpQuiet_nil ?_; intro w34 hw34; have hb34 := Ext.below hw34; clear hw34; obtain ⟨g34, rfl⟩ := more_of_below hb34; clear hb34)
  go_wp2_with fail
  any_goals ((first | ((have hne : ¬ xb * xf - xc * xe = xn * xg := by assumption)) | ((have hne : (xb * xf - xc * xe != xn * xg) = true := by assumption); rw [bne_iff_ne] at hne)); (have e : r = 3 := HN.out (fun hF => hne (by omega))); (subst e); go_ret; exact ⟨rfl, by (repeat (first | with_reducible assumption | with_reducible exact Below.refl _ _ | with_reducible refine Below.drewN ?_ _ | with_reducible refine Below.drew ?_ | with_reducible refine Below.alloc ?_ (by first | omega | (simp; done) | (simp; omega)) _ | with_reducible refine Below.setCell ?_ (by first | omega | (simp; done) | (simp; omega)) _ | with_reducible refine below_more _ _ ?_ (by first | omega | (simp; done) | (simp; omega))))⟩)
  clear u0 v0 u1 v1 u2 v2
  have n2 : -xn ≤ xn ∧ xn ≤ xn := ⟨by omega, Int.le_refl _⟩
  obtain ⟨u0, v0⟩ := mul_bd RN.out Rc.out Rd.out
  obtain ⟨u1, v1⟩ := mul_bd RN.out Ra.out Rf.out
  obtain ⟨u2, v2⟩ := mul_bd RN.out n2 Rh.out
  clear n2
  rw [rounds_succ]
  go_wp2_with fail
  (refine wp_region_quiet (C := Ext _) (by kernel_rfl) (by kernel_rfl) (Ext.start _) ?_; simp only []; (repeat (refine wpQuiet_step (fun K hK => ?_); go_simp; (try go_bits); apply Exists.intro; refine ⟨fun w' hw' => ?_, hK _ ?_⟩; (focus (first | with_reducible exact rfl | (obtain ⟨gx, rfl⟩ := more_of_below (Ext.below hw'); go_simp; exact rfl))); clear hK K)); refine wpQuiet_nil ?_; intro w35 hw35; have hb35 := Ext.below hw35; clear hw35; obtain ⟨g35, rfl⟩ := more_of_below hb35; clear hb35)
  go_wp2_with fail
  any_goals ((first | ((have hne : ¬ xc * xd - xa * xf = xn * xh := by assumption)) | ((have hne : (xc * xd - xa * xf != xn * xh) = true := by assumption); rw [bne_iff_ne] at hne)); (have e : r = 3 := HN.out (fun hF => hne (by omega))); (subst e); go_ret; exact ⟨rfl, by (repeat (first | with_reducible assumption | with_reducible exact Below.refl _ _ | with_reducible refine Below.drewN ?_ _ | with_reducible refine Below.drew ?_ | with_reducible refine Below.alloc ?_ (by first | omega | (simp; done) | (simp; omega)) _ | with_reducible refine Below.setCell ?_ (by first | omega | (simp; done) | (simp; omega)) _ | with_reducible refine below_more _ _ ?_ (by first | omega | (simp; done) | (simp; omega))))⟩)
  clear u0 v0 u1 v1 u2 v2
  have n2 : -xn ≤ xn ∧ xn ≤ xn := ⟨by omega, Int.le_refl _⟩
  obtain ⟨u0, v0⟩ := mul_bd RN.out Ra.out Re.out
  obtain ⟨u1, v1⟩ := mul_bd RN.out Rb.out Rd.out
  obtain ⟨u2, v2⟩ := mul_bd RN.out n2 Ri.out
  clear n2
  rw [rounds_succ]
  go_wp2_with fail
  (refine wp_region_quiet (C := Ext _) (by kernel_rfl) (by kernel_rfl) (Ext.start _) ?_; simp only []; (repeat (refine wpQuiet_step (fun K hK => ?_); go_simp; (try go_bits); apply Exists.intro; refine ⟨fun w' hw' => ?_, hK _ ?_⟩; (focus (first | with_reducible exact rfl | (obtain ⟨gx, rfl⟩ := more_of_below (Ext.below hw'); go_simp; exact rfl))); clear hK K)); refine wpQuiet_nil ?_; intro w36 hw36; have hb36 := Ext.below hw36; clear hw36; obtain ⟨g36, rfl⟩ := more_of_below hb36; clear hb36)
  go_wp2_with fail
  any_goals ((first | ((have hne : ¬ xa * xe - xb * xd = xn * xi := by assumption)) | ((have hne : (xa * xe - xb * xd != xn * xi) = true := by assumption); rw [bne_iff_ne] at hne)); (have e : r = 3 := HN.out (fun hF => hne (by omega))); (subst e); go_ret; exact ⟨rfl, by (repeat (first | with_reducible assumption | with_reducible exact Below.refl _ _ | with_reducible refine Below.drewN ?_ _ | with_reducible refine Below.drew ?_ | with_reducible refine Below.alloc ?_ (by first | omega | (simp; done) | (simp; omega)) _ | with_reducible refine Below.setCell ?_ (by first | omega | (simp; done) | (simp; omega)) _ | with_reducible refine below_more _ _ ?_ (by first | omega | (simp; done) | (simp; omega))))⟩)
  clear u0 v0 u1 v1 u2 v2
  rw [rounds_succ]
  go_wp2_with fail
  clear c60 c61 c62 c70 c71 c72 c80 c81 c82 l6 l7 l8
  rw [rounds_succ]
  go_wp2_with fail
  have q00 : xa * xa + xb * xb + xc * xc = xn * xn := by first | assumption | exact bne_eq_false_iff_eq.1 (by assumption)
  have q01 : xa * xd + xb * xe + xc * xf = 0 := by first | assumption | exact bne_eq_false_iff_eq.1 (by assumption)
  have q02 : xe * xi - xf * xh = xn * xa := by first | assumption | exact bne_eq_false_iff_eq.1 (by assumption)
  have q03 : xf * xg - xd * xi = xn * xb := by first | assumption | exact bne_eq_false_iff_eq.1 (by assumption)
  have q04 : xd * xh - xe * xg = xn * xc := by first | assumption | exact bne_eq_false_iff_eq.1 (by assumption)
  have q10 : xd * xd + xe * xe + xf * xf = xn * xn := by first | assumption | exact bne_eq_false_iff_eq.1 (by assumption)
  have q11 : xd * xg + xe * xh + xf * xi = 0 := by first | assumption | exact bne_eq_false_iff_eq.1 (by assumption)
  have q12 : xh * xc - xi * xb = xn * xd := by first | assumption | exact bne_eq_false_iff_eq.1 (by assumption)
  have q13 : xi * xa - xg * xc = xn * xe := by first | assumption | exact bne_eq_false_iff_eq.1 (by assumption)
  have q14 : xg * xb - xh * xa = xn * xf := by first | assumption | exact bne_eq_false_iff_eq.1 (by assumption)
  have q20 : xg * xg + xh * xh + xi * xi = xn * xn := by first | assumption | exact bne_eq_false_iff_eq.1 (by assumption)
  have q21 : xg * xa + xh * xb + xi * xc = 0 := by first | assumption | exact bne_eq_false_iff_eq.1 (by assumption)
  have q22 : xb * xf - xc * xe = xn * xg := by first | assumption | exact bne_eq_false_iff_eq.1 (by assumption)
  have q23 : xc * xd - xa * xf = xn * xh := by first | assumption | exact bne_eq_false_iff_eq.1 (by assumption)
  have q24 : xa * xe - xb * xd = xn * xi := by first | assumption | exact bne_eq_false_iff_eq.1 (by assumption)
  have e : r = 0 := HP.out ⟨⟨q00, q01, q02, q03, q04⟩, ⟨q10, q11, q12, q13, q14⟩, ⟨q20, q21, q22, q23, q24⟩⟩
  subst e
  go_ret
  exact ⟨rfl, by (repeat (first | with_reducible assumption | with_reducible exact Below.refl _ _ | with_reducible refine Below.drewN ?_ _ | with_reducible refine Below.drew ?_ | with_reducible refine Below.alloc ?_ (by first | omega | (simp; done) | (simp; omega)) _ | with_reducible refine Below.setCell ?_ (by first | omega | (simp; done) | (simp; omega)) _ | with_reducible refine below_more _ _ ?_ (by first | omega | (simp; done) | (simp; omega))))⟩
theorem rrot_any (x : Rt) (w : World) :
    Calls Try.prog 48 #[.agg #[.int .i64 x.a, .int .i64 x.b, .int .i64 x.c, .int .i64 x.d, .int .i64 x.e, .int .i64 x.f, .int .i64 x.g, .int .i64 x.h, .int .i64 x.i, .int .i64 x.n]] w fun e w' => e = .returned (.int .i64 x.err) ∧ Below w.heap.size w w' := by
  by_cases h : x.Rng
  · have e : x.err = if x.Frm then 0 else 3 := by unfold Rt.err; rw [if_pos h]
    rw [e]; exact rrot_in x h w
  · have e : x.err = 2 := by unfold Rt.err; rw [if_neg h]
    rw [e]; exact rrot_range x h w
end Go.Proofs.Ythajaabgcbjfkaa
