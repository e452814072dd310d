/- Contracts: Quaternion of the reference. -/
import Derived.Test.YthajaabgcbjfkaaT11
namespace Go.Proofs.Ythajaabgcbjfkaa
open Go.RowKit

set_option maxRecDepth 100000 in
set_option maxHeartbeats 16000000 in
theorem rquaternion_walk (x : Rt) (h : x.Rng) (s r : Qt) (hz : (Rt.z4 x.l0 = false ∧ s = x.l0) ∨ (Rt.z4 x.l0 = true ∧ Rt.z4 x.l1 = false ∧ s = x.l1) ∨ (Rt.z4 x.l0 = true ∧ Rt.z4 x.l1 = true ∧ Rt.z4 x.l2 = false ∧ s = x.l2) ∨ (Rt.z4 x.l0 = true ∧ Rt.z4 x.l1 = true ∧ Rt.z4 x.l2 = true ∧ Rt.z4 x.l3 = false ∧ s = x.l3))
    (cr : ∀ w, Calls Try.prog 97 #[.agg #[.int .i64 s.w, .int .i64 s.x, .int .i64 s.y, .int .i64 s.z]] w fun e w' => e = .returned (.agg #[.int .i64 r.w, .int .i64 r.x, .int .i64 r.y, .int .i64 r.z]) ∧ Below w.heap.size w w') (w : World) :
    Calls Try.prog 50 #[.agg #[.int .i64 x.a, .int .i64 x.b, .int .i64 x.c, .int .i64 x.d, .int .i64 x.e, .int .i64 x.f, .int .i64 x.g, .int .i64 x.h, .int .i64 x.i, .int .i64 x.n]] w fun e w' => e = .returned (.agg #[.int .i64 r.w, .int .i64 r.x, .int .i64 r.y, .int .i64 r.z, .int .i64 1]) ∧ Below w.heap.size w w' := by
  rcases hz with ⟨z0, rfl⟩ | ⟨z0, z1, rfl⟩ | ⟨z0, z1, z2, rfl⟩ | ⟨z0, z1, z2, z3, rfl⟩
  all_goals
    have CR := Lib.hid cr
    clear cr
    obtain ⟨⟨n0, n1⟩, ra, rb, rc, rd, re, rf, rg, rh, ri⟩ := h
    obtain ⟨ra0, ra1⟩ := ra
    obtain ⟨rb0, rb1⟩ := rb
    obtain ⟨rc0, rc1⟩ := rc
    obtain ⟨rd0, rd1⟩ := rd
    obtain ⟨re0, re1⟩ := re
    obtain ⟨rf0, rf1⟩ := rf
    obtain ⟨rg0, rg1⟩ := rg
    obtain ⟨rh0, rh1⟩ := rh
    obtain ⟨ri0, ri1⟩ := ri
    obtain ⟨xa, xb, xc, xd, xe, xf, xg, xh, xi, xn⟩ := x
    simp only [Rt.z4, Rt.l0, Rt.l1, Rt.l2, Rt.l3] at *
    go_enter Try.func50, Try.ntmps50
    go_wp2_with fail
    go_region
    go_wp2_with fail
    (try ((refine wp_region_calm_tail 141 (Ext _) (by kernel_rfl) (by kernel_rfl) (Ext.start _) ?_; simp only [List.take_succ_cons, List.take_zero, List.drop_succ_cons, List.drop_zero]; (repeat (refine wpQuiet_step (fun K hK => ?_); go_simp; (try go_bits); apply Exists.intro; refine ⟨fun w' hw' => ?_, hK _ ?_⟩; (focus (first | with_reducible exact rfl | (go_at_call 97; fail) | (obtain ⟨gx, rfl⟩ := more_of_below (Ext.below hw'); go_simp; exact rfl))); clear hK K)); refine wpQuiet_nil ?_; intro w2 hw2; have hb2 := Ext.below hw2; clear hw2; obtain ⟨g2, rfl⟩ := more_of_below hb2; clear hb2); go_wp2_with fail))
    refine wp_loop_rounds 5 ?_
    repeat (rw [rounds_succ]; go_wp2_with (first | (go_at_call 97; with_reducible refine (CR.out _).mono ?_; rintro e w3 ⟨rfl, hb3⟩; obtain ⟨g3, rfl⟩ := more_of_below hb3; clear hb3) | (go_at_call 96; with_reducible refine (rwhole4_any r _).mono ?_; rintro e w4 ⟨rfl, hb4⟩; obtain ⟨g4, rfl⟩ := more_of_below hb4; clear hb4)))
    refine bodyPost_ret (v := .agg #[.int .i64 r.w, .int .i64 r.x, .int .i64 r.y, .int .i64 r.z, .int .i64 1]) (by simp [results, Try.results50, go_sem]) rfl ⟨rfl, by (repeat (first | with_reducible assumption | with_reducible exact Below.refl _ _ | with_reducible refine Below.drewN ?_ _ | with_reducible refine Below.drew ?_ | with_reducible refine Below.alloc ?_ (by first | omega | (simp; done) | (simp; omega)) _ | with_reducible refine Below.setCell ?_ (by first | omega | (simp; done) | (simp; omega)) _ | with_reducible refine below_more _ _ ?_ (by first | omega | (simp; done) | (simp; omega))))⟩
end Go.Proofs.Ythajaabgcbjfkaa
