/- Contracts of the reference: reading elements. -/
import Derived.Test.YthajaabgcbjfkaaR2
import Derived.Test.YthajaabgcbjfkaaO2
import Derived.Test.YthajaabgcbjfkaaP2
namespace Go.Proofs.Ythajaabgcbjfkaa
open Go.RowKit

/-- Numbers within 4 * 10^18. -/
def N4 (x : Int) : Prop := -4000000000000000000 ≤ x ∧ x ≤ 4000000000000000000
theorem bgcd_4 (a b : Int) (ha : N4 a) (hb : N4 b) (w : World) :
    Calls Try.prog 38 #[.int .i64 a, .int .i64 b] w fun e w' => e = .returned (.int .i64 (igcd a b)) ∧ Below w.heap.size w w' :=
  bgcd_in a b (by unfold N4 at ha; omega) (by unfold N4 at hb; omega) w
theorem igcd_4 (a b : Int) (ha : N4 a) (hb : N4 b) : N4 (igcd a b) := by
  unfold N4 at *
  have := bgcd_same a b (by omega) (by omega)
  omega

set_option maxRecDepth 10000 in
set_option maxHeartbeats 1000000 in
theorem lowest_in (q : Qd) (h0 : N4 q.w) (h1 : N4 q.x) (h2 : N4 q.y) (h3 : N4 q.z) (hd : 1 ≤ q.d) (h4 : N4 q.d) (w : World) :
    Calls Try.prog 69 #[.agg #[.int .i64 q.w, .int .i64 q.x, .int .i64 q.y, .int .i64 q.z, .int .i64 q.d]] w fun e w' => e = .returned (.agg #[.int .i64 q.low.w, .int .i64 q.low.x, .int .i64 q.low.y, .int .i64 q.low.z, .int .i64 q.low.d]) ∧ Below w.heap.size w w' := by
  have hg := Qd.lg_pos hd
  have hg0 : ¬ q.lg = 0 := by omega
  have g1 := igcd_4 _ _ h0 h1
  have g2 := igcd_4 _ _ h2 h3
  have g3 := igcd_4 _ _ g1 g2
  have e : igcd (igcd (igcd q.w q.x) (igcd q.y q.z)) q.d = q.lg := rfl
  have c1 := bgcd_4 q.w q.x h0 h1
  have c2 := bgcd_4 q.y q.z h2 h3
  have c3 := bgcd_4 _ _ g1 g2
  have c4 := bgcd_4 _ _ g3 h4
  rw [e] at c4
  have C1 := Lib.hid c1; have C2 := Lib.hid c2; have C3 := Lib.hid c3; have C4 := Lib.hid c4
  unfold N4 at h0 h1 h2 h3 h4
  obtain ⟨p0, p1⟩ := Qt.tdiv_bd q.w q.lg _ (by omega) hg h0
  obtain ⟨p2, p3⟩ := Qt.tdiv_bd q.x q.lg _ (by omega) hg h1
  obtain ⟨p4, p5⟩ := Qt.tdiv_bd q.y q.lg _ (by omega) hg h2
  obtain ⟨p6, p7⟩ := Qt.tdiv_bd q.z q.lg _ (by omega) hg h3
  obtain ⟨p8, p9⟩ := Qt.tdiv_bd q.d q.lg _ (by omega) hg h4
  have nd : ¬ q.d = 0 := by omega
  clear c1 c2 c3 c4 g1 g2 g3 e
  go_enter Try.func69, Try.ntmps69
  go_wp2_with fail
  (refine wp_region_calm_tail 14 (Ext _) (by kernel_rfl) (by kernel_rfl) (Ext.start _) ?_; simp only [List.take_succ_cons, List.take_zero, List.drop_succ_cons, List.drop_zero]; (repeat (refine wpQuiet_step (fun K hK => ?_); go_simp; (try go_bits); apply Exists.intro; refine ⟨fun w' hw' => ?_, hK _ ?_⟩; (focus (first | with_reducible exact rfl | (go_at_call 38; (first | with_reducible exact Ext.call hw' (C1.out _) | with_reducible exact Ext.call hw' (C2.out _) | with_reducible exact Ext.call hw' (C3.out _) | with_reducible exact Ext.call hw' (C4.out _))) | (obtain ⟨gx, rfl⟩ := more_of_below (Ext.below hw'); go_simp; exact rfl))); clear hK K)); refine wpQuiet_nil ?_; intro w1 hw1; have hb1 := Ext.below hw1; clear hw1; obtain ⟨g1, rfl⟩ := more_of_below hb1; clear hb1)
  clear C1 C2 C3 C4
  go_wp2
  go_region
  go_wp2
  refine bodyPost_ret (v := .agg #[.int .i64 q.low.w, .int .i64 q.low.x, .int .i64 q.low.y, .int .i64 q.low.z, .int .i64 q.low.d]) (by simp [results, Try.results69, go_sem, Qd.low]) rfl ⟨rfl, ?_⟩
  (repeat (first | with_reducible assumption | with_reducible exact Below.refl _ _ | with_reducible refine Below.drewN ?_ _ | with_reducible refine Below.drew ?_ | with_reducible refine Below.alloc ?_ (by first | omega | (simp; done) | (simp; omega)) _ | with_reducible refine Below.setCell ?_ (by first | omega | (simp; done) | (simp; omega)) _ | with_reducible refine below_more _ _ ?_ (by first | omega | (simp; done) | (simp; omega))))

set_option maxRecDepth 10000 in
set_option maxHeartbeats 1000000 in
theorem rquatErr_any (q : Qd) (w : World) :
    Calls Try.prog 68 #[.agg #[.int .i64 q.w, .int .i64 q.x, .int .i64 q.y, .int .i64 q.z, .int .i64 q.d]] w fun e w' => e = .returned (.int .i64 q.err) ∧ Below w.heap.size w w' := by
  have he : q.err = if (inB q.w (-1000000) 1000000 && (inB q.x (-1000000) 1000000 && (inB q.y (-1000000) 1000000 && (inB q.z (-1000000) 1000000 && inB q.d 1 1000000)))) = true then 0 else 3 := by
    unfold Qd.err Qd.okb inB
    simp only [Bool.and_eq_true, decide_eq_true_eq]
  generalize q.err = err at *
  generalize hb0 : inB q.w (-1000000) 1000000 = b0 at *
  generalize hb1 : inB q.x (-1000000) 1000000 = b1 at *
  generalize hb2 : inB q.y (-1000000) 1000000 = b2 at *
  generalize hb3 : inB q.z (-1000000) 1000000 = b3 at *
  generalize hb4 : inB q.d 1 1000000 = b4 at *
  have c0 := within_any q.w (-1000000) 1000000
  have c1 := within_any q.x (-1000000) 1000000
  have c2 := within_any q.y (-1000000) 1000000
  have c3 := within_any q.z (-1000000) 1000000
  have c4 := within_any q.d 1 1000000
  rw [hb0] at c0; rw [hb1] at c1; rw [hb2] at c2; rw [hb3] at c3; rw [hb4] at c4
  clear hb0 hb1 hb2 hb3 hb4
  have C0 := Lib.hid c0; have C1 := Lib.hid c1; have C2 := Lib.hid c2; have C3 := Lib.hid c3; have C4 := Lib.hid c4
  clear c0 c1 c2 c3 c4
  cases b0 <;> (try cases b1) <;> (try cases b2) <;> (try cases b3) <;> (try cases b4)
  all_goals
    simp only [Bool.false_and, Bool.true_and, Bool.false_eq_true, if_false, if_true] at he
    subst he
    go_enter Try.func68, Try.ntmps68
    go_wp2
    refine wp_loop_rounds 5 ?_
    repeat any_goals (rw [rounds_succ]; go_wp2_with (first | (go_at_call 25; with_reducible refine (C0.out _).mono ?_; rintro e w' ⟨rfl, rfl⟩) | (go_at_call 25; with_reducible refine (C1.out _).mono ?_; rintro e w' ⟨rfl, rfl⟩) | (go_at_call 25; with_reducible refine (C2.out _).mono ?_; rintro e w' ⟨rfl, rfl⟩) | (go_at_call 25; with_reducible refine (C3.out _).mono ?_; rintro e w' ⟨rfl, rfl⟩) | (go_at_call 25; with_reducible refine (C4.out _).mono ?_; rintro e w' ⟨rfl, rfl⟩)))
    go_ret
    exact ⟨rfl, by (repeat (first | with_reducible assumption | with_reducible exact Below.refl _ _ | with_reducible refine Below.drewN ?_ _ | with_reducible refine Below.drew ?_ | with_reducible refine Below.alloc ?_ (by first | omega | (simp; done) | (simp; omega)) _ | with_reducible refine Below.setCell ?_ (by first | omega | (simp; done) | (simp; omega)) _ | with_reducible refine below_more _ _ ?_ (by first | omega | (simp; done) | (simp; omega))))⟩
end Go.Proofs.Ythajaabgcbjfkaa
