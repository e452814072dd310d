/- Contracts of the leaves. -/
import Derived.Test.YthajaabgcbjfkaaRows
import Derived.Test.YthajaabgcbjfkaaEqs
import Derived.Test.YthajaabgcbjfkaaMore
import Derived.Test.YthajaabgcbjfkaaCalm
import Derived.Test.YthajaabgcbjfkaaOwn
import Derived.WalkSpells
import Derived.WalkLawsBesides
import Derived.Deep.QuietTactic
import Derived.BigQuiet
import Derived.StillTailTactics
import Derived.Lib.Hide
namespace Go.Proofs.Ythajaabgcbjfkaa
open Go.RowKit
attribute [go_sem] Oper.quiet Oper.quietAt Oper.quietUpon quietM

set_option maxHeartbeats 400000 in
theorem abs_any (a : Int) (w : World) (ha : -9223372036854775807 ≤ a) (ha2 : a ≤ 9223372036854775807) :
    Calls Try.prog 121 #[.int .i64 a] w fun e w' => e = .returned (.int .i64 ((a.natAbs : Int))) ∧ w = w' := by
  go_enter Try.func121, Try.ntmps121
  go_wp2
  all_goals (go_ret; refine ⟨?_, rfl⟩; simp; omega)

set_option maxHeartbeats 400000 in
theorem times_any (a b : Qt) (w : World) :
    Calls Try.prog 110 #[.agg #[.int .i64 a.w, .int .i64 a.x, .int .i64 a.y, .int .i64 a.z], .agg #[.int .i64 b.w, .int .i64 b.x, .int .i64 b.y, .int .i64 b.z]] w fun e w' => e = .returned (.agg #[.int .i64 ((a.mul b).wr).w, .int .i64 ((a.mul b).wr).x, .int .i64 ((a.mul b).wr).y, .int .i64 ((a.mul b).wr).z]) ∧ Below w.heap.size w w' := by
  go_enter Try.func110, Try.ntmps110
  go_wp2
  refine bodyPost_ret (v := .agg #[.int .i64 ((a.mul b).wr).w, .int .i64 ((a.mul b).wr).x, .int .i64 ((a.mul b).wr).y, .int .i64 ((a.mul b).wr).z]) (by simp [results, Try.results110, go_sem, Qt.wr, Qt.mul, wr_add_l, wr_add_r, wr_sub_l, wr_sub_r]) rfl ⟨rfl, ?_⟩
  (repeat (first | with_reducible assumption | with_reducible exact Below.refl _ _ | with_reducible refine Below.drewN ?_ _ | with_reducible refine Below.drew ?_ | with_reducible refine Below.alloc ?_ (by first | omega | (simp; done) | (simp; omega)) _ | with_reducible refine Below.setCell ?_ (by first | omega | (simp; done) | (simp; omega)) _ | with_reducible refine below_more _ _ ?_ (by first | omega | (simp; done) | (simp; omega))))

set_option maxHeartbeats 400000 in
theorem conj_any (a : Qt) (w : World) :
    Calls Try.prog 109 #[.agg #[.int .i64 a.w, .int .i64 a.x, .int .i64 a.y, .int .i64 a.z]] w fun e w' => e = .returned (.agg #[.int .i64 a.w, .int .i64 (wrap64 (-a.x)), .int .i64 (wrap64 (-a.y)), .int .i64 (wrap64 (-a.z))]) ∧ Below w.heap.size w w' := by
  go_enter Try.func109, Try.ntmps109
  go_wp2
  refine bodyPost_ret (v := .agg #[.int .i64 a.w, .int .i64 (wrap64 (-a.x)), .int .i64 (wrap64 (-a.y)), .int .i64 (wrap64 (-a.z))]) (by simp [results, Try.results109, go_sem]) rfl ⟨rfl, ?_⟩
  (repeat (first | with_reducible assumption | with_reducible exact Below.refl _ _ | with_reducible refine Below.drewN ?_ _ | with_reducible refine Below.drew ?_ | with_reducible refine Below.alloc ?_ (by first | omega | (simp; done) | (simp; omega)) _ | with_reducible refine Below.setCell ?_ (by first | omega | (simp; done) | (simp; omega)) _ | with_reducible refine below_more _ _ ?_ (by first | omega | (simp; done) | (simp; omega))))

set_option maxRecDepth 100000 in
set_option maxHeartbeats 400000 in
theorem over_any (a : Qt) (n : Int) (w : World) (hn : ¬ n = 0) :
    Calls Try.prog 113 #[.agg #[.int .i64 a.w, .int .i64 a.x, .int .i64 a.y, .int .i64 a.z], .int .i64 n] w fun e w' => e = .returned (.agg #[.int .i64 ((a.over n).wr).w, .int .i64 ((a.over n).wr).x, .int .i64 ((a.over n).wr).y, .int .i64 ((a.over n).wr).z]) ∧ Below w.heap.size w w' := by
  go_enter Try.func113, Try.ntmps113
  go_wp2
  go_region
  go_wp2
  refine bodyPost_ret (v := .agg #[.int .i64 ((a.over n).wr).w, .int .i64 ((a.over n).wr).x, .int .i64 ((a.over n).wr).y, .int .i64 ((a.over n).wr).z]) (by simp [results, Try.results113, go_sem, Qt.wr, Qt.over]) rfl ⟨rfl, ?_⟩
  (repeat (first | with_reducible assumption | with_reducible exact Below.refl _ _ | with_reducible refine Below.drewN ?_ _ | with_reducible refine Below.drew ?_ | with_reducible refine Below.alloc ?_ (by first | omega | (simp; done) | (simp; omega)) _ | with_reducible refine Below.setCell ?_ (by first | omega | (simp; done) | (simp; omega)) _ | with_reducible refine below_more _ _ ?_ (by first | omega | (simp; done) | (simp; omega))))

theorem times_in (a b : Qt) (w : World) (h : (a.mul b).InR) :
    Calls Try.prog 110 #[.agg #[.int .i64 a.w, .int .i64 a.x, .int .i64 a.y, .int .i64 a.z], .agg #[.int .i64 b.w, .int .i64 b.x, .int .i64 b.y, .int .i64 b.z]] w fun e w' => e = .returned (.agg #[.int .i64 (a.mul b).w, .int .i64 (a.mul b).x, .int .i64 (a.mul b).y, .int .i64 (a.mul b).z]) ∧ Below w.heap.size w w' := by
  have := times_any a b w
  rwa [Qt.wr_InR h] at this
theorem over_in (a : Qt) (n : Int) (w : World) (hn : 1 ≤ n) (h : a.InR) :
    Calls Try.prog 113 #[.agg #[.int .i64 a.w, .int .i64 a.x, .int .i64 a.y, .int .i64 a.z], .int .i64 n] w fun e w' => e = .returned (.agg #[.int .i64 (a.over n).w, .int .i64 (a.over n).x, .int .i64 (a.over n).y, .int .i64 (a.over n).z]) ∧ Below w.heap.size w w' := by
  have := over_any a n w (by omega)
  rwa [Qt.wr_InR (Qt.over_InR h hn)] at this
theorem conj_in (a : Qt) (w : World) (h : a.InR) :
    Calls Try.prog 109 #[.agg #[.int .i64 a.w, .int .i64 a.x, .int .i64 a.y, .int .i64 a.z]] w fun e w' => e = .returned (.agg #[.int .i64 a.conj.w, .int .i64 a.conj.x, .int .i64 a.conj.y, .int .i64 a.conj.z]) ∧ Below w.heap.size w w' := by
  have := conj_any a w
  obtain ⟨h0, h1, h2, h3⟩ := h
  rwa [wr_in _ (by omega), wr_in _ (by omega), wr_in _ (by omega)] at this

set_option maxHeartbeats 400000 in
theorem sum_any (a : Qt) (w : World) :
    Calls Try.prog 120 #[.agg #[.int .i64 a.w, .int .i64 a.x, .int .i64 a.y, .int .i64 a.z]] w fun e w' => e = .returned (.int .i64 (wrap64 a.nrm)) ∧ Below w.heap.size w w' := by
  go_enter Try.func120, Try.ntmps120
  go_wp2
  go_ret
  refine ⟨?_, ?_⟩
  · simp [Qt.nrm, wr_add_l, wr_add_r]
  · (repeat (first | with_reducible assumption | with_reducible exact Below.refl _ _ | with_reducible refine Below.drewN ?_ _ | with_reducible refine Below.drew ?_ | with_reducible refine Below.alloc ?_ (by first | omega | (simp; done) | (simp; omega)) _ | with_reducible refine Below.setCell ?_ (by first | omega | (simp; done) | (simp; omega)) _ | with_reducible refine below_more _ _ ?_ (by first | omega | (simp; done) | (simp; omega))))

end Go.Proofs.Ythajaabgcbjfkaa
