/- Contracts of the leaves, continued. -/
import Derived.Test.YthajaabgcbjfkaaA1
import Derived.Handy
namespace Go.Proofs.Ythajaabgcbjfkaa
open Go.RowKit

set_option maxHeartbeats 400000 in
theorem minus_any (a b : Qt) (w : World) :
    Calls Try.prog 112 #[.agg #[.int .i64 a.w, .int .i64 a.x, .int .i64 a.y, .int .i64 a.z], .agg #[.int .i64 b.w, .int .i64 b.x, .int .i64 b.y, .int .i64 b.z]] w fun e w' => e = .returned (.agg #[.int .i64 ((a.sub b).wr).w, .int .i64 ((a.sub b).wr).x, .int .i64 ((a.sub b).wr).y, .int .i64 ((a.sub b).wr).z]) ∧ Below w.heap.size w w' := by
  go_enter Try.func112, Try.ntmps112
  go_wp2
  refine wp_loop_rounds 5 ?_
  repeat any_goals (rw [rounds_succ]; go_wp2; (try go_region); go_wp2)
  refine bodyPost_ret (v := .agg #[.int .i64 ((a.sub b).wr).w, .int .i64 ((a.sub b).wr).x, .int .i64 ((a.sub b).wr).y, .int .i64 ((a.sub b).wr).z]) (by simp [results, Try.results112, go_sem, Qt.wr, Qt.sub]) rfl ⟨rfl, ?_⟩
  (repeat (first | with_reducible assumption | with_reducible exact Below.refl _ _ | with_reducible refine Below.drewN ?_ _ | with_reducible refine Below.drew ?_ | with_reducible refine Below.alloc ?_ (by first | omega | (simp; done) | (simp; omega)) _ | with_reducible refine Below.setCell ?_ (by first | omega | (simp; done) | (simp; omega)) _ | with_reducible refine below_more _ _ ?_ (by first | omega | (simp; done) | (simp; omega))))

set_option maxHeartbeats 400000 in
theorem hzero_any (a : Qt) (w : World) :
    Calls Try.prog 65 #[.agg #[.int .i64 a.w, .int .i64 a.x, .int .i64 a.y, .int .i64 a.z]] w fun e w' => e = .returned (.bool (a.eqb ⟨0, 0, 0, 0⟩)) ∧ Below w.heap.size w w' := by
  go_enter Try.func65, Try.ntmps65
  go_wp2
  go_ret
  exact ⟨rfl, by (repeat (first | with_reducible assumption | with_reducible exact Below.refl _ _ | with_reducible refine Below.drewN ?_ _ | with_reducible refine Below.drew ?_ | with_reducible refine Below.alloc ?_ (by first | omega | (simp; done) | (simp; omega)) _ | with_reducible refine Below.setCell ?_ (by first | omega | (simp; done) | (simp; omega)) _ | with_reducible refine below_more _ _ ?_ (by first | omega | (simp; done) | (simp; omega))))⟩

set_option maxHeartbeats 400000 in
theorem hnorm_any (a : Qt) (h : a.nrm ≤ 9000000000000000000) (w : World) :
    Calls Try.prog 79 #[.agg #[.int .i64 a.w, .int .i64 a.x, .int .i64 a.y, .int .i64 a.z]] w fun e w' => e = .returned (.int .i64 (a.nrm / 4)) ∧ Below w.heap.size w w' := by
  go_enter Try.func79, Try.ntmps79
  have h0 := a.nrm_nonneg
  have hs : wrap64 a.nrm = a.nrm := wr_in _ (by omega)
  have c := sum_any a
  rw [hs] at c
  clear hs
  go_wp2_with (first | (go_at_call 120; with_reducible refine (c _).mono ?_; rintro e w1 ⟨rfl, hb1⟩; obtain ⟨g1, rfl⟩ := more_of_below hb1; clear hb1))
  go_ret
  exact ⟨rfl, by (repeat (first | with_reducible assumption | with_reducible exact Below.refl _ _ | with_reducible refine Below.drewN ?_ _ | with_reducible refine Below.drew ?_ | with_reducible refine Below.alloc ?_ (by first | omega | (simp; done) | (simp; omega)) _ | with_reducible refine Below.setCell ?_ (by first | omega | (simp; done) | (simp; omega)) _ | with_reducible refine below_more _ _ ?_ (by first | omega | (simp; done) | (simp; omega))))⟩

set_option maxHeartbeats 400000 in
theorem htimes_in (a b : Qt) (h : (a.mul b).InR) (w : World) :
    Calls Try.prog 80 #[.agg #[.int .i64 a.w, .int .i64 a.x, .int .i64 a.y, .int .i64 a.z], .agg #[.int .i64 b.w, .int .i64 b.x, .int .i64 b.y, .int .i64 b.z]] w fun e w' => e = .returned (.agg #[.int .i64 ((a.mul b).over 2).w, .int .i64 ((a.mul b).over 2).x, .int .i64 ((a.mul b).over 2).y, .int .i64 ((a.mul b).over 2).z]) ∧ Below w.heap.size w w' := by
  go_enter Try.func80, Try.ntmps80
  go_wp2_with (first | (go_at_call 110; with_reducible refine (times_in _ _ _ h).mono ?_; rintro e w1 ⟨rfl, hb1⟩; obtain ⟨g1, rfl⟩ := more_of_below hb1; clear hb1) | (go_at_call 113; with_reducible refine (over_in _ _ _ (by omega) h).mono ?_; rintro e w2 ⟨rfl, hb2⟩; obtain ⟨g2, rfl⟩ := more_of_below hb2; clear hb2))
  refine bodyPost_ret (v := .agg #[.int .i64 ((a.mul b).over 2).w, .int .i64 ((a.mul b).over 2).x, .int .i64 ((a.mul b).over 2).y, .int .i64 ((a.mul b).over 2).z]) (by simp [results, Try.results80, go_sem, *]) rfl ⟨rfl, ?_⟩
  (repeat (first | with_reducible assumption | with_reducible exact Below.refl _ _ | with_reducible refine Below.drewN ?_ _ | with_reducible refine Below.drew ?_ | with_reducible refine Below.alloc ?_ (by first | omega | (simp; done) | (simp; omega)) _ | with_reducible refine Below.setCell ?_ (by first | omega | (simp; done) | (simp; omega)) _ | with_reducible refine below_more _ _ ?_ (by first | omega | (simp; done) | (simp; omega))))

theorem minus_in (a b : Qt) (h : (a.sub b).InR) (w : World) :
    Calls Try.prog 112 #[.agg #[.int .i64 a.w, .int .i64 a.x, .int .i64 a.y, .int .i64 a.z], .agg #[.int .i64 b.w, .int .i64 b.x, .int .i64 b.y, .int .i64 b.z]] w fun e w' => e = .returned (.agg #[.int .i64 (a.sub b).w, .int .i64 (a.sub b).x, .int .i64 (a.sub b).y, .int .i64 (a.sub b).z]) ∧ Below w.heap.size w w' := by
  have := minus_any a b w
  rwa [Qt.wr_InR h] at this

end Go.Proofs.Ythajaabgcbjfkaa
