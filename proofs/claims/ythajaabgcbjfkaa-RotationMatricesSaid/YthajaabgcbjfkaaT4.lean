/- Contracts: RotationErr of the reference. -/
import Derived.Test.YthajaabgcbjfkaaT0
import Derived.Test.YthajaabgcbjfkaaR1
import Derived.Test.YthajaabgcbjfkaaM1
namespace Go.Proofs.Ythajaabgcbjfkaa
open Go.RowKit

/-- Three blocks of the callee's part brought to light. -/
theorem split_three {W w : World} (h : Below W.heap.size W w) {b c d : Nat} {ob oc od : Obj} (hb : W.heap.size ≤ b) (hob : w.heap[b]? = some ob) (hoc : w.heap[c]? = some oc) (hod : w.heap[d]? = some od) (hlt : b < c) (hlt2 : c < d) :
    ∃ g g' g'' g''', b = W.heap.size + g.2.size ∧ c = W.heap.size + g.2.size + 1 + g'.2.size ∧ d = W.heap.size + g.2.size + 1 + g'.2.size + 1 + g''.2.size ∧ w = more ((more ((more ((more W g).alloc ob) g').alloc oc) g'').alloc od) g''' := by
  obtain ⟨g, g', g2, hE, hF, hw⟩ := split_two h hb hob hoc hlt
  have hB : Below ((more ((more W g).alloc ob) g').alloc oc).heap.size ((more ((more W g).alloc ob) g').alloc oc) w := by rw [hw]; exact below_more _ _ (Below.refl _ _) (Nat.le_refl _)
  have hs : ((more ((more W g).alloc ob) g').alloc oc).heap.size = W.heap.size + g.2.size + 1 + g'.2.size + 1 := by simp
  obtain ⟨g3, g4, hE2, hw2⟩ := split_block hB (b := d) (by omega) hod
  exact ⟨g, g', g3, g4, hE, hF, by omega, hw2⟩

set_option maxRecDepth 10000 in
set_option maxHeartbeats 1000000 in
theorem rdot_in {n : Int} (a b c d e f : Int) (hn : 0 ≤ n ∧ n ≤ 1000000) (ha : -n ≤ a ∧ a ≤ n) (hb : -n ≤ b ∧ b ≤ n) (hc : -n ≤ c ∧ c ≤ n) (hd : -n ≤ d ∧ d ≤ n) (he : -n ≤ e ∧ e ≤ n) (hf : -n ≤ f ∧ f ≤ n) (w : World) :
    Calls Try.prog 95 #[.agg #[.int .i64 a, .int .i64 b, .int .i64 c], .agg #[.int .i64 d, .int .i64 e, .int .i64 f]] w fun e' w' => e' = .returned (.int .i64 (a * d + b * e + c * f)) ∧ Below w.heap.size w w' := by
  obtain ⟨u0, v0⟩ := mul_bd hn ha hd
  obtain ⟨u1, v1⟩ := mul_bd hn hb he
  obtain ⟨u2, v2⟩ := mul_bd hn hc hf
  clear hn ha hb hc hd he hf
  go_enter Try.func95, Try.ntmps95
  go_wp2
  go_ret
  exact ⟨rfl, by (repeat (first | with_reducible assumption | with_reducible exact Below.refl _ _ | with_reducible refine Below.drewN ?_ _ | with_reducible refine Below.drew ?_ | with_reducible refine Below.alloc ?_ (by first | omega | (simp; done) | (simp; omega)) _ | with_reducible refine Below.setCell ?_ (by first | omega | (simp; done) | (simp; omega)) _ | with_reducible refine below_more _ _ ?_ (by first | omega | (simp; done) | (simp; omega))))⟩

set_option maxRecDepth 100000 in
set_option maxHeartbeats 4000000 in
theorem rrot_range (x : Rt) (h : ¬ x.Rng) (w : World) :
    Calls Try.prog 48 #[.agg #[.int .i64 x.a, .int .i64 x.b, .int .i64 x.c, .int .i64 x.d, .int .i64 x.e, .int .i64 x.f, .int .i64 x.g, .int .i64 x.h, .int .i64 x.i, .int .i64 x.n]] w fun e w' => e = .returned (.int .i64 2) ∧ Below w.heap.size w w' := by
  have HK := Lib.hid h
  unfold Rt.Rng at HK
  clear h
  obtain ⟨xa, xb, xc, xd, xe, xf, xg, xh, xi, xn⟩ := x
  simp only at *
  by_cases hn : 1 ≤ xn ∧ xn ≤ 1000000
  · obtain ⟨n1, n2⟩ := hn
    have hi : inB xn 1 1000000 = true := by unfold inB; exact decide_eq_true ⟨n1, n2⟩
    go_enter Try.func48, Try.ntmps48
    go_wp2_with (first | (go_at_call 25; with_reducible refine (within_any _ _ _ _).mono ?_; rintro e w' ⟨rfl, rfl⟩))
    refine wp_loop_rounds 4 ?_
    repeat any_goals (rw [rounds_succ]; go_wp2_with fail; (all_goals (try ((refine wp_region_quiet (C := Ext _) (by kernel_rfl) (by kernel_rfl) (Ext.start _) ?_; simp only []; (repeat (refine wpQuiet_step (fun K hK => ?_); go_simp; (try go_bits); apply Exists.intro; refine ⟨fun w' hw' => ?_, hK _ ?_⟩; (focus (first | with_reducible exact rfl | (go_at_call 25; (exact Ext.call hw' (Calls.mono (within_any _ _ _ _) same_below))) | (obtain ⟨gx, rfl⟩ := more_of_below (Ext.below hw'); go_simp; exact rfl))); clear hK K)); refine wpQuiet_nil ?_; intro w1 hw1; have hb1 := Ext.below hw1; clear hw1; obtain ⟨g1, rfl⟩ := more_of_below hb1; clear hb1)))); (all_goals (go_wp2_with fail)); (all_goals (try (exfalso; have hk := HK.out; simp [inB] at *; omega))); (all_goals (try refine wp_loop_rounds 4 ?_)))
    all_goals (go_ret; exact ⟨rfl, by (repeat (first | with_reducible assumption | with_reducible exact Below.refl _ _ | with_reducible refine Below.drewN ?_ _ | with_reducible refine Below.drew ?_ | with_reducible refine Below.alloc ?_ (by first | omega | (simp; done) | (simp; omega)) _ | with_reducible refine Below.setCell ?_ (by first | omega | (simp; done) | (simp; omega)) _ | with_reducible refine below_more _ _ ?_ (by first | omega | (simp; done) | (simp; omega))))⟩)
  · have hi : inB xn 1 1000000 = false := by unfold inB; exact decide_eq_false hn
    clear HK hn
    go_enter Try.func48, Try.ntmps48
    go_wp2_with (first | (go_at_call 25; with_reducible refine (within_any _ _ _ _).mono ?_; rintro e w' ⟨rfl, rfl⟩))
    go_ret
    exact ⟨rfl, by (repeat (first | with_reducible assumption | with_reducible exact Below.refl _ _ | with_reducible refine Below.drewN ?_ _ | with_reducible refine Below.drew ?_ | with_reducible refine Below.alloc ?_ (by first | omega | (simp; done) | (simp; omega)) _ | with_reducible refine Below.setCell ?_ (by first | omega | (simp; done) | (simp; omega)) _ | with_reducible refine below_more _ _ ?_ (by first | omega | (simp; done) | (simp; omega))))⟩
end Go.Proofs.Ythajaabgcbjfkaa
