/- Contracts: Quaternion of the program. -/
import Derived.Test.YthajaabgcbjfkaaT7
namespace Go.Proofs.Ythajaabgcbjfkaa
open Go.RowKit

theorem Rt.lq_cases {x : Rt} (h : 1 ≤ x.n) : (Rt.z4 x.l0 = false ∧ x.lq = x.l0) ∨ (Rt.z4 x.l0 = true ∧ Rt.z4 x.l1 = false ∧ x.lq = x.l1) ∨ (Rt.z4 x.l0 = true ∧ Rt.z4 x.l1 = true ∧ Rt.z4 x.l2 = false ∧ x.lq = x.l2) ∨ (Rt.z4 x.l0 = true ∧ Rt.z4 x.l1 = true ∧ Rt.z4 x.l2 = true ∧ Rt.z4 x.l3 = false ∧ x.lq = x.l3) := by
  have hz := Rt.lq_ne h
  cases h0 : Rt.z4 x.l0
  · exact .inl ⟨rfl, by unfold Rt.lq; rw [h0]; rfl⟩
  · cases h1 : Rt.z4 x.l1
    · exact .inr (.inl ⟨rfl, rfl, by unfold Rt.lq; rw [h0, h1]; rfl⟩)
    · cases h2 : Rt.z4 x.l2
      · exact .inr (.inr (.inl ⟨rfl, rfl, rfl, by unfold Rt.lq; rw [h0, h1, h2]; rfl⟩))
      · have e : x.lq = x.l3 := by unfold Rt.lq; rw [h0, h1, h2]; rfl
        rw [e] at hz
        exact .inr (.inr (.inr ⟨rfl, rfl, rfl, hz, e⟩))
theorem Rt.lq_InR {x : Rt} (h : x.Rng) : x.lq.InR := by
  obtain ⟨⟨n0, n1⟩, ra, rb, rc, rd, re, rf, rg, rh, ri⟩ := h
  rcases Rt.lq_row x with e | e | e | e <;> rw [e] <;> refine ⟨?_, ?_, ?_, ?_⟩ <;> simp only [Rt.l0, Rt.l1, Rt.l2, Rt.l3] <;> omega
set_option maxRecDepth 10000 in
set_option maxHeartbeats 1000000 in
theorem pquat4_any (a : Qt) (w : World) :
    Calls Try.prog 94 #[.agg #[.int .i64 a.w, .int .i64 a.x, .int .i64 a.y, .int .i64 a.z]] w fun e w' => e = .returned (.agg #[.int .i64 a.w, .int .i64 a.x, .int .i64 a.y, .int .i64 a.z, .int .i64 1]) ∧ Below w.heap.size w w' := by
  go_enter Try.func94, Try.ntmps94
  go_wp2
  refine bodyPost_ret (v := .agg #[.int .i64 a.w, .int .i64 a.x, .int .i64 a.y, .int .i64 a.z, .int .i64 1]) (by simp [results, Try.results94, go_sem]) rfl ⟨rfl, by (repeat (first | with_reducible assumption | with_reducible exact Below.refl _ _ | with_reducible refine Below.drewN ?_ _ | with_reducible refine Below.drew ?_ | with_reducible refine Below.alloc ?_ (by first | omega | (simp; done) | (simp; omega)) _ | with_reducible refine Below.setCell ?_ (by first | omega | (simp; done) | (simp; omega)) _ | with_reducible refine below_more _ _ ?_ (by first | omega | (simp; done) | (simp; omega))))⟩
set_option maxRecDepth 10000 in
set_option maxHeartbeats 1000000 in
theorem pquaternion_err (x : Rt) (d : Int) (hd : d ≠ 0)
    (c1 : ∀ w, Calls Try.prog 49 #[.agg #[.int .i64 x.a, .int .i64 x.b, .int .i64 x.c, .int .i64 x.d, .int .i64 x.e, .int .i64 x.f, .int .i64 x.g, .int .i64 x.h, .int .i64 x.i, .int .i64 x.n]] w fun e w' => e = .returned (.int .i64 d) ∧ Below w.heap.size w w') (w : World) :
    Calls Try.prog 47 #[.agg #[.int .i64 x.a, .int .i64 x.b, .int .i64 x.c, .int .i64 x.d, .int .i64 x.e, .int .i64 x.f, .int .i64 x.g, .int .i64 x.h, .int .i64 x.i, .int .i64 x.n]] w fun e w' => e = .returned (.tuple #[.agg #[.int .i64 0, .int .i64 0, .int .i64 0, .int .i64 0, .int .i64 0], .int .i64 d]) ∧ Below w.heap.size w w' := by
  have C1 := Lib.hid c1
  have hd2 : (d != 0) = true := by simpa using hd
  clear c1 hd
  go_enter Try.func47, Try.ntmps47
  go_wp2_with (first | (go_at_call 49; with_reducible refine (C1.out _).mono ?_; rintro e w1 ⟨rfl, hb1⟩; obtain ⟨g1, rfl⟩ := more_of_below hb1; clear hb1))
  refine bodyPost_ret (v := .tuple #[.agg #[.int .i64 0, .int .i64 0, .int .i64 0, .int .i64 0, .int .i64 0], .int .i64 d]) (by simp [results, Try.results47, go_sem]) rfl ⟨rfl, by (repeat (first | with_reducible assumption | with_reducible exact Below.refl _ _ | with_reducible refine Below.drewN ?_ _ | with_reducible refine Below.drew ?_ | with_reducible refine Below.alloc ?_ (by first | omega | (simp; done) | (simp; omega)) _ | with_reducible refine Below.setCell ?_ (by first | omega | (simp; done) | (simp; omega)) _ | with_reducible refine below_more _ _ ?_ (by first | omega | (simp; done) | (simp; omega))))⟩
set_option maxRecDepth 100000 in
set_option maxHeartbeats 16000000 in
theorem pquaternion_walk (x : Rt) (h : x.Rng) (s r : Qt) (hz : (Rt.z4 x.l0 = false ∧ s = x.l0) ∨ (Rt.z4 x.l0 = true ∧ Rt.z4 x.l1 = false ∧ s = x.l1) ∨ (Rt.z4 x.l0 = true ∧ Rt.z4 x.l1 = true ∧ Rt.z4 x.l2 = false ∧ s = x.l2) ∨ (Rt.z4 x.l0 = true ∧ Rt.z4 x.l1 = true ∧ Rt.z4 x.l2 = true ∧ Rt.z4 x.l3 = false ∧ s = x.l3))
    (c1 : ∀ w, Calls Try.prog 49 #[.agg #[.int .i64 x.a, .int .i64 x.b, .int .i64 x.c, .int .i64 x.d, .int .i64 x.e, .int .i64 x.f, .int .i64 x.g, .int .i64 x.h, .int .i64 x.i, .int .i64 x.n]] w fun e w' => e = .returned (.int .i64 0) ∧ Below w.heap.size w w')
    (cr : ∀ w, Calls Try.prog 93 #[.agg #[.int .i64 s.w, .int .i64 s.x, .int .i64 s.y, .int .i64 s.z]] w fun e w' => e = .returned (.agg #[.int .i64 r.w, .int .i64 r.x, .int .i64 r.y, .int .i64 r.z]) ∧ Below w.heap.size w w') (w : World) :
    Calls Try.prog 47 #[.agg #[.int .i64 x.a, .int .i64 x.b, .int .i64 x.c, .int .i64 x.d, .int .i64 x.e, .int .i64 x.f, .int .i64 x.g, .int .i64 x.h, .int .i64 x.i, .int .i64 x.n]] w fun e w' => e = .returned (.tuple #[.agg #[.int .i64 r.w, .int .i64 r.x, .int .i64 r.y, .int .i64 r.z, .int .i64 1], .int .i64 0]) ∧ Below w.heap.size w w' := by
  rcases hz with ⟨z0, rfl⟩ | ⟨z0, z1, rfl⟩ | ⟨z0, z1, z2, rfl⟩ | ⟨z0, z1, z2, z3, rfl⟩
  all_goals
    have C1 := Lib.hid c1; have CR := Lib.hid cr
    clear c1 cr
    obtain ⟨⟨n0, n1⟩, ra, rb, rc, rd, re, rf, rg, rh, ri⟩ := h
    obtain ⟨ra0, ra1⟩ := ra
    obtain ⟨rb0, rb1⟩ := rb
    obtain ⟨rc0, rc1⟩ := rc
    obtain ⟨rd0, rd1⟩ := rd
    obtain ⟨re0, re1⟩ := re
    obtain ⟨rf0, rf1⟩ := rf
    obtain ⟨rg0, rg1⟩ := rg
    obtain ⟨rh0, rh1⟩ := rh
    obtain ⟨ri0, ri1⟩ := ri
    obtain ⟨xa, xb, xc, xd, xe, xf, xg, xh, xi, xn⟩ := x
    simp only [Rt.z4, Rt.l0, Rt.l1, Rt.l2, Rt.l3] at *
    have j0 : ∀ (p00 p01 p02 p03 p10 p11 p12 p13 p20 p21 p22 p23 p30 p31 p32 p33 : Int) (w : World), (Instr.index 119 (.agg #[.int .i64 p00, .int .i64 p01, .int .i64 p02, .int .i64 p03, .int .i64 p10, .int .i64 p11, .int .i64 p12, .int .i64 p13, .int .i64 p20, .int .i64 p21, .int .i64 p22, .int .i64 p23, .int .i64 p30, .int .i64 p31, .int .i64 p32, .int .i64 p33]) (.int .i64 0)).run Try.prog w = .ok (.agg #[.int .i64 p00, .int .i64 p01, .int .i64 p02, .int .i64 p03]) w := fun _ _ _ _ _ _ _ _ _ _ _ _ _ _ _ _ _ => by kernel_rfl
    have j1 : ∀ (p00 p01 p02 p03 p10 p11 p12 p13 p20 p21 p22 p23 p30 p31 p32 p33 : Int) (w : World), (Instr.index 119 (.agg #[.int .i64 p00, .int .i64 p01, .int .i64 p02, .int .i64 p03, .int .i64 p10, .int .i64 p11, .int .i64 p12, .int .i64 p13, .int .i64 p20, .int .i64 p21, .int .i64 p22, .int .i64 p23, .int .i64 p30, .int .i64 p31, .int .i64 p32, .int .i64 p33]) (.int .i64 1)).run Try.prog w = .ok (.agg #[.int .i64 p10, .int .i64 p11, .int .i64 p12, .int .i64 p13]) w := fun _ _ _ _ _ _ _ _ _ _ _ _ _ _ _ _ _ => by kernel_rfl
    have j2 : ∀ (p00 p01 p02 p03 p10 p11 p12 p13 p20 p21 p22 p23 p30 p31 p32 p33 : Int) (w : World), (Instr.index 119 (.agg #[.int .i64 p00, .int .i64 p01, .int .i64 p02, .int .i64 p03, .int .i64 p10, .int .i64 p11, .int .i64 p12, .int .i64 p13, .int .i64 p20, .int .i64 p21, .int .i64 p22, .int .i64 p23, .int .i64 p30, .int .i64 p31, .int .i64 p32, .int .i64 p33]) (.int .i64 2)).run Try.prog w = .ok (.agg #[.int .i64 p20, .int .i64 p21, .int .i64 p22, .int .i64 p23]) w := fun _ _ _ _ _ _ _ _ _ _ _ _ _ _ _ _ _ => by kernel_rfl
    have j3 : ∀ (p00 p01 p02 p03 p10 p11 p12 p13 p20 p21 p22 p23 p30 p31 p32 p33 : Int) (w : World), (Instr.index 119 (.agg #[.int .i64 p00, .int .i64 p01, .int .i64 p02, .int .i64 p03, .int .i64 p10, .int .i64 p11, .int .i64 p12, .int .i64 p13, .int .i64 p20, .int .i64 p21, .int .i64 p22, .int .i64 p23, .int .i64 p30, .int .i64 p31, .int .i64 p32, .int .i64 p33]) (.int .i64 3)).run Try.prog w = .ok (.agg #[.int .i64 p30, .int .i64 p31, .int .i64 p32, .int .i64 p33]) w := fun _ _ _ _ _ _ _ _ _ _ _ _ _ _ _ _ _ => by kernel_rfl
    go_enter Try.func47, Try.ntmps47
    go_wp2_with (first | (go_at_call 49; with_reducible refine (C1.out _).mono ?_; rintro e w1 ⟨rfl, hb1⟩; obtain ⟨g1, rfl⟩ := more_of_below hb1; clear hb1))
    go_region
    go_wp2_with fail
    (try ((refine wp_region_quiet (C := Ext _) (by kernel_rfl) (by kernel_rfl) (Ext.start _) ?_; simp only []; (repeat (refine wpQuiet_step (fun K hK => ?_); go_simp; (try go_bits); apply Exists.intro; refine ⟨fun w' hw' => ?_, hK _ ?_⟩; (focus (first | with_reducible exact rfl | (obtain ⟨gx, rfl⟩ := more_of_below (Ext.below hw'); go_simp; exact rfl))); clear hK K)); refine wpQuiet_nil ?_; intro w2 hw2; have hb2 := Ext.below hw2; clear hw2; obtain ⟨g2, rfl⟩ := more_of_below hb2; clear hb2); go_wp2_with fail))
    refine wp_loop_rounds 5 ?_
    repeat (rw [rounds_succ]; go_wp2_with (first | (go_at_call 93; with_reducible refine (CR.out _).mono ?_; rintro e w3 ⟨rfl, hb3⟩; obtain ⟨g3, rfl⟩ := more_of_below hb3; clear hb3) | (go_at_call 94; with_reducible refine (pquat4_any r _).mono ?_; rintro e w4 ⟨rfl, hb4⟩; obtain ⟨g4, rfl⟩ := more_of_below hb4; clear hb4)))
    refine bodyPost_ret (v := .tuple #[.agg #[.int .i64 r.w, .int .i64 r.x, .int .i64 r.y, .int .i64 r.z, .int .i64 1], .int .i64 0]) (by simp [results, Try.results47, go_sem]) rfl ⟨rfl, by (repeat (first | with_reducible assumption | with_reducible exact Below.refl _ _ | with_reducible refine Below.drewN ?_ _ | with_reducible refine Below.drew ?_ | with_reducible refine Below.alloc ?_ (by first | omega | (simp; done) | (simp; omega)) _ | with_reducible refine Below.setCell ?_ (by first | omega | (simp; done) | (simp; omega)) _ | with_reducible refine below_more _ _ ?_ (by first | omega | (simp; done) | (simp; omega))))⟩
end Go.Proofs.Ythajaabgcbjfkaa
