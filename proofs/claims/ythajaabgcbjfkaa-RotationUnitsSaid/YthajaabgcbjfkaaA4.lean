/- Contracts: read, gcd, compare. -/
import Derived.Test.YthajaabgcbjfkaaA3
namespace Go.Proofs.Ythajaabgcbjfkaa
open Go.RowKit

set_option maxRecDepth 10000 in
set_option maxHeartbeats 4000000 in
theorem read_any (q : Qd) (w : World) (hq : q.okb = true) :
    Calls Try.prog 88 #[.agg #[.int .i64 q.w, .int .i64 q.x, .int .i64 q.y, .int .i64 q.z, .int .i64 q.d]] w fun e w' => e = .returned (.tuple #[.agg #[.int .i64 ((if q.rdok then q.rdv.w else 0)), .int .i64 ((if q.rdok then q.rdv.x else 0)), .int .i64 ((if q.rdok then q.rdv.y else 0)), .int .i64 ((if q.rdok then q.rdv.z else 0))], .bool q.rdok]) ∧ Below w.heap.size w w' := by
  have hq' := hq
  simp only [Qd.okb, decide_eq_true_eq] at hq'
  clear hq
  obtain ⟨⟨hw1, hw2⟩, ⟨hx1, hx2⟩, ⟨hy1, hy2⟩, ⟨hz1, hz2⟩, hd1, hd2⟩ := hq'
  have hd0 : ¬ q.d = 0 := by omega
  have b1 := Qt.tdiv_bd (2 * q.w) q.d 2000000 (by omega) hd1 (by omega)
  have b2 := Qt.tdiv_bd (2 * q.x) q.d 2000000 (by omega) hd1 (by omega)
  have b3 := Qt.tdiv_bd (2 * q.y) q.d 2000000 (by omega) hd1 (by omega)
  have b4 := Qt.tdiv_bd (2 * q.z) q.d 2000000 (by omega) hd1 (by omega)
  generalize hok : q.rdok = ok
  generalize hv : q.rdv = v
  unfold Qd.rdok at hok
  unfold Qd.rdv at hv
  have HV := Lib.hid hv
  have HK := Lib.hid hok
  clear hv hok
  generalize hr0 : (if ok = true then v.w else 0) = r0
  generalize hr1 : (if ok = true then v.x else 0) = r1
  generalize hr2 : (if ok = true then v.y else 0) = r2
  generalize hr3 : (if ok = true then v.z else 0) = r3
  have H0 := Lib.hid hr0
  have H1 := Lib.hid hr1
  have H2 := Lib.hid hr2
  have H3 := Lib.hid hr3
  clear hr0 hr1 hr2 hr3
  go_enter Try.func88, Try.ntmps88
  go_wp2
  refine wp_loop_rounds 5 ?_
  repeat any_goals (rw [rounds_succ]; go_wp2; (all_goals (try (go_region; go_wp2))); (all_goals (try (go_region; go_wp2))))
  any_goals refine wp_loop_rounds 5 ?_
  repeat any_goals (rw [rounds_succ]; go_wp2; (all_goals (try (go_region; go_wp2))); (all_goals (try (go_region; go_wp2))))
  all_goals (have hk := HK.out; have h0 := H0.out; have h1 := H1.out; have h2 := H2.out; have h3 := H3.out; have hv := HV.out)
  all_goals (clear HK H0 H1 H2 H3 HV)
  all_goals (simp only [*, Bool.not_true, Bool.not_false, Bool.false_and, Bool.true_and] at hk)
  all_goals (subst hk; simp only [Bool.false_eq_true, if_false, if_true] at h0 h1 h2 h3; subst hv; subst h0; subst h1; subst h2; subst h3)
  all_goals (refine bodyPost_ret (v := .tuple #[.agg #[.int .i64 _, .int .i64 _, .int .i64 _, .int .i64 _], .bool _]) (by simp [results, Try.results88, go_sem]; done) rfl ⟨rfl, ?_⟩)
  all_goals ((repeat (first | with_reducible assumption | with_reducible exact Below.refl _ _ | with_reducible refine Below.drewN ?_ _ | with_reducible refine Below.drew ?_ | with_reducible refine Below.alloc ?_ (by first | omega | (simp; done) | (simp; omega)) _ | with_reducible refine Below.setCell ?_ (by first | omega | (simp; done) | (simp; omega)) _ | with_reducible refine below_more _ _ ?_ (by first | omega | (simp; done) | (simp; omega)))))

end Go.Proofs.Ythajaabgcbjfkaa
