/- Contracts of the leaves. Contracts of the leaves, continued. Contracts of the leaves, continued. Contracts: read, gcd, compare. Contract: gcd of a list of numbers. Contracts: comparing. -/
import Derived.Test.YthajaabgcbjfkaaDoorRows
import Derived.Test.YthajaabgcbjfkaaDoorEqs
import Derived.Test.YthajaabgcbjfkaaDoorBase
import Derived.WalkSpells
import Derived.WalkLawsBesides
import Derived.Deep.QuietTactic
import Derived.BigQuiet
import Derived.StillTailTactics
import Derived.Lib.Hide
import Derived.Handy
namespace Go.Proofs.YthajaabgcbjfkaaDoor
open Go.RowKit
attribute [go_sem] Oper.quiet Oper.quietAt Oper.quietUpon quietM

set_option maxHeartbeats 400000 in
theorem abs_any (a : Int) (w : World) (ha : -9223372036854775807 ≤ a) (ha2 : a ≤ 9223372036854775807) :
    Calls Tryd.prog 46 #[.int .i64 a] w fun e w' => e = .returned (.int .i64 ((a.natAbs : Int))) ∧ w = w' := by
  go_enter Tryd.func46, Tryd.ntmps46
  go_wp2
  all_goals (go_ret; refine ⟨?_, rfl⟩; simp; omega)

set_option maxHeartbeats 400000 in
theorem times_any (a b : Qt) (w : World) :
    Calls Tryd.prog 18 #[.agg #[.int .i64 a.w, .int .i64 a.x, .int .i64 a.y, .int .i64 a.z], .agg #[.int .i64 b.w, .int .i64 b.x, .int .i64 b.y, .int .i64 b.z]] w fun e w' => e = .returned (.agg #[.int .i64 ((a.mul b).wr).w, .int .i64 ((a.mul b).wr).x, .int .i64 ((a.mul b).wr).y, .int .i64 ((a.mul b).wr).z]) ∧ Below w.heap.size w w' := by
  go_enter Tryd.func18, Tryd.ntmps18
  go_wp2
  refine bodyPost_ret (v := .agg #[.int .i64 ((a.mul b).wr).w, .int .i64 ((a.mul b).wr).x, .int .i64 ((a.mul b).wr).y, .int .i64 ((a.mul b).wr).z]) (by simp [results, Tryd.results18, go_sem, Qt.wr, Qt.mul, wr_add_l, wr_add_r, wr_sub_l, wr_sub_r]) rfl ⟨rfl, ?_⟩
  (repeat (first | with_reducible assumption | with_reducible exact Below.refl _ _ | with_reducible refine Below.drewN ?_ _ | with_reducible refine Below.drew ?_ | with_reducible refine Below.alloc ?_ (by first | omega | (simp; done) | (simp; omega)) _ | with_reducible refine Below.setCell ?_ (by first | omega | (simp; done) | (simp; omega)) _ | with_reducible refine below_more _ _ ?_ (by first | omega | (simp; done) | (simp; omega))))

set_option maxHeartbeats 400000 in
theorem conj_any (a : Qt) (w : World) :
    Calls Tryd.prog 40 #[.agg #[.int .i64 a.w, .int .i64 a.x, .int .i64 a.y, .int .i64 a.z]] w fun e w' => e = .returned (.agg #[.int .i64 a.w, .int .i64 (wrap64 (-a.x)), .int .i64 (wrap64 (-a.y)), .int .i64 (wrap64 (-a.z))]) ∧ Below w.heap.size w w' := by
  go_enter Tryd.func40, Tryd.ntmps40
  go_wp2
  refine bodyPost_ret (v := .agg #[.int .i64 a.w, .int .i64 (wrap64 (-a.x)), .int .i64 (wrap64 (-a.y)), .int .i64 (wrap64 (-a.z))]) (by simp [results, Tryd.results40, go_sem]) rfl ⟨rfl, ?_⟩
  (repeat (first | with_reducible assumption | with_reducible exact Below.refl _ _ | with_reducible refine Below.drewN ?_ _ | with_reducible refine Below.drew ?_ | with_reducible refine Below.alloc ?_ (by first | omega | (simp; done) | (simp; omega)) _ | with_reducible refine Below.setCell ?_ (by first | omega | (simp; done) | (simp; omega)) _ | with_reducible refine below_more _ _ ?_ (by first | omega | (simp; done) | (simp; omega))))

set_option maxRecDepth 100000 in
set_option maxHeartbeats 400000 in
theorem over_any (a : Qt) (n : Int) (w : World) (hn : ¬ n = 0) :
    Calls Tryd.prog 41 #[.agg #[.int .i64 a.w, .int .i64 a.x, .int .i64 a.y, .int .i64 a.z], .int .i64 n] w fun e w' => e = .returned (.agg #[.int .i64 ((a.over n).wr).w, .int .i64 ((a.over n).wr).x, .int .i64 ((a.over n).wr).y, .int .i64 ((a.over n).wr).z]) ∧ Below w.heap.size w w' := by
  go_enter Tryd.func41, Tryd.ntmps41
  go_wp2
  go_region
  go_wp2
  refine bodyPost_ret (v := .agg #[.int .i64 ((a.over n).wr).w, .int .i64 ((a.over n).wr).x, .int .i64 ((a.over n).wr).y, .int .i64 ((a.over n).wr).z]) (by simp [results, Tryd.results41, go_sem, Qt.wr, Qt.over]) rfl ⟨rfl, ?_⟩
  (repeat (first | with_reducible assumption | with_reducible exact Below.refl _ _ | with_reducible refine Below.drewN ?_ _ | with_reducible refine Below.drew ?_ | with_reducible refine Below.alloc ?_ (by first | omega | (simp; done) | (simp; omega)) _ | with_reducible refine Below.setCell ?_ (by first | omega | (simp; done) | (simp; omega)) _ | with_reducible refine below_more _ _ ?_ (by first | omega | (simp; done) | (simp; omega))))

theorem times_in (a b : Qt) (w : World) (h : (a.mul b).InR) :
    Calls Tryd.prog 18 #[.agg #[.int .i64 a.w, .int .i64 a.x, .int .i64 a.y, .int .i64 a.z], .agg #[.int .i64 b.w, .int .i64 b.x, .int .i64 b.y, .int .i64 b.z]] w fun e w' => e = .returned (.agg #[.int .i64 (a.mul b).w, .int .i64 (a.mul b).x, .int .i64 (a.mul b).y, .int .i64 (a.mul b).z]) ∧ Below w.heap.size w w' := by
  have := times_any a b w
  rwa [Qt.wr_InR h] at this
theorem over_in (a : Qt) (n : Int) (w : World) (hn : 1 ≤ n) (h : a.InR) :
    Calls Tryd.prog 41 #[.agg #[.int .i64 a.w, .int .i64 a.x, .int .i64 a.y, .int .i64 a.z], .int .i64 n] w fun e w' => e = .returned (.agg #[.int .i64 (a.over n).w, .int .i64 (a.over n).x, .int .i64 (a.over n).y, .int .i64 (a.over n).z]) ∧ Below w.heap.size w w' := by
  have := over_any a n w (by omega)
  rwa [Qt.wr_InR (Qt.over_InR h hn)] at this
theorem conj_in (a : Qt) (w : World) (h : a.InR) :
    Calls Tryd.prog 40 #[.agg #[.int .i64 a.w, .int .i64 a.x, .int .i64 a.y, .int .i64 a.z]] w fun e w' => e = .returned (.agg #[.int .i64 a.conj.w, .int .i64 a.conj.x, .int .i64 a.conj.y, .int .i64 a.conj.z]) ∧ Below w.heap.size w w' := by
  have := conj_any a w
  obtain ⟨h0, h1, h2, h3⟩ := h
  rwa [wr_in _ (by omega), wr_in _ (by omega), wr_in _ (by omega)] at this

set_option maxHeartbeats 400000 in
theorem sum_any (a : Qt) (w : World) :
    Calls Tryd.prog 63 #[.agg #[.int .i64 a.w, .int .i64 a.x, .int .i64 a.y, .int .i64 a.z]] w fun e w' => e = .returned (.int .i64 (wrap64 a.nrm)) ∧ Below w.heap.size w w' := by
  go_enter Tryd.func63, Tryd.ntmps63
  go_wp2
  go_ret
  refine ⟨?_, ?_⟩
  · simp [Qt.nrm, wr_add_l, wr_add_r]
  · (repeat (first | with_reducible assumption | with_reducible exact Below.refl _ _ | with_reducible refine Below.drewN ?_ _ | with_reducible refine Below.drew ?_ | with_reducible refine Below.alloc ?_ (by first | omega | (simp; done) | (simp; omega)) _ | with_reducible refine Below.setCell ?_ (by first | omega | (simp; done) | (simp; omega)) _ | with_reducible refine below_more _ _ ?_ (by first | omega | (simp; done) | (simp; omega))))

end Go.Proofs.YthajaabgcbjfkaaDoor

namespace Go.Proofs.YthajaabgcbjfkaaDoor
open Go.RowKit

set_option maxHeartbeats 400000 in
theorem minus_any (a b : Qt) (w : World) :
    Calls Tryd.prog 60 #[.agg #[.int .i64 a.w, .int .i64 a.x, .int .i64 a.y, .int .i64 a.z], .agg #[.int .i64 b.w, .int .i64 b.x, .int .i64 b.y, .int .i64 b.z]] w fun e w' => e = .returned (.agg #[.int .i64 ((a.sub b).wr).w, .int .i64 ((a.sub b).wr).x, .int .i64 ((a.sub b).wr).y, .int .i64 ((a.sub b).wr).z]) ∧ Below w.heap.size w w' := by
  go_enter Tryd.func60, Tryd.ntmps60
  go_wp2
  refine wp_loop_rounds 5 ?_
  repeat any_goals (rw [rounds_succ]; go_wp2; (try go_region); go_wp2)
  refine bodyPost_ret (v := .agg #[.int .i64 ((a.sub b).wr).w, .int .i64 ((a.sub b).wr).x, .int .i64 ((a.sub b).wr).y, .int .i64 ((a.sub b).wr).z]) (by simp [results, Tryd.results60, go_sem, Qt.wr, Qt.sub]) rfl ⟨rfl, ?_⟩
  (repeat (first | with_reducible assumption | with_reducible exact Below.refl _ _ | with_reducible refine Below.drewN ?_ _ | with_reducible refine Below.drew ?_ | with_reducible refine Below.alloc ?_ (by first | omega | (simp; done) | (simp; omega)) _ | with_reducible refine Below.setCell ?_ (by first | omega | (simp; done) | (simp; omega)) _ | with_reducible refine below_more _ _ ?_ (by first | omega | (simp; done) | (simp; omega))))

set_option maxHeartbeats 400000 in
theorem hzero_any (a : Qt) (w : World) :
    Calls Tryd.prog 35 #[.agg #[.int .i64 a.w, .int .i64 a.x, .int .i64 a.y, .int .i64 a.z]] w fun e w' => e = .returned (.bool (a.eqb ⟨0, 0, 0, 0⟩)) ∧ Below w.heap.size w w' := by
  go_enter Tryd.func35, Tryd.ntmps35
  go_wp2
  go_ret
  exact ⟨rfl, by (repeat (first | with_reducible assumption | with_reducible exact Below.refl _ _ | with_reducible refine Below.drewN ?_ _ | with_reducible refine Below.drew ?_ | with_reducible refine Below.alloc ?_ (by first | omega | (simp; done) | (simp; omega)) _ | with_reducible refine Below.setCell ?_ (by first | omega | (simp; done) | (simp; omega)) _ | with_reducible refine below_more _ _ ?_ (by first | omega | (simp; done) | (simp; omega))))⟩

set_option maxHeartbeats 400000 in
theorem hnorm_any (a : Qt) (h : a.nrm ≤ 9000000000000000000) (w : World) :
    Calls Tryd.prog 58 #[.agg #[.int .i64 a.w, .int .i64 a.x, .int .i64 a.y, .int .i64 a.z]] w fun e w' => e = .returned (.int .i64 (a.nrm / 4)) ∧ Below w.heap.size w w' := by
  go_enter Tryd.func58, Tryd.ntmps58
  have h0 := a.nrm_nonneg
  have hs : wrap64 a.nrm = a.nrm := wr_in _ (by omega)
  have c := sum_any a
  rw [hs] at c
  clear hs
  go_wp2_with (first | (go_at_call 63; with_reducible refine (c _).mono ?_; rintro e w1 ⟨rfl, hb1⟩; obtain ⟨g1, rfl⟩ := more_of_below hb1; clear hb1))
  go_ret
  exact ⟨rfl, by (repeat (first | with_reducible assumption | with_reducible exact Below.refl _ _ | with_reducible refine Below.drewN ?_ _ | with_reducible refine Below.drew ?_ | with_reducible refine Below.alloc ?_ (by first | omega | (simp; done) | (simp; omega)) _ | with_reducible refine Below.setCell ?_ (by first | omega | (simp; done) | (simp; omega)) _ | with_reducible refine below_more _ _ ?_ (by first | omega | (simp; done) | (simp; omega))))⟩

set_option maxHeartbeats 400000 in
theorem htimes_in (a b : Qt) (h : (a.mul b).InR) (w : World) :
    Calls Tryd.prog 61 #[.agg #[.int .i64 a.w, .int .i64 a.x, .int .i64 a.y, .int .i64 a.z], .agg #[.int .i64 b.w, .int .i64 b.x, .int .i64 b.y, .int .i64 b.z]] w fun e w' => e = .returned (.agg #[.int .i64 ((a.mul b).over 2).w, .int .i64 ((a.mul b).over 2).x, .int .i64 ((a.mul b).over 2).y, .int .i64 ((a.mul b).over 2).z]) ∧ Below w.heap.size w w' := by
  go_enter Tryd.func61, Tryd.ntmps61
  go_wp2_with (first | (go_at_call 18; with_reducible refine (times_in _ _ _ h).mono ?_; rintro e w1 ⟨rfl, hb1⟩; obtain ⟨g1, rfl⟩ := more_of_below hb1; clear hb1) | (go_at_call 41; with_reducible refine (over_in _ _ _ (by omega) h).mono ?_; rintro e w2 ⟨rfl, hb2⟩; obtain ⟨g2, rfl⟩ := more_of_below hb2; clear hb2))
  refine bodyPost_ret (v := .agg #[.int .i64 ((a.mul b).over 2).w, .int .i64 ((a.mul b).over 2).x, .int .i64 ((a.mul b).over 2).y, .int .i64 ((a.mul b).over 2).z]) (by simp [results, Tryd.results61, go_sem, *]) rfl ⟨rfl, ?_⟩
  (repeat (first | with_reducible assumption | with_reducible exact Below.refl _ _ | with_reducible refine Below.drewN ?_ _ | with_reducible refine Below.drew ?_ | with_reducible refine Below.alloc ?_ (by first | omega | (simp; done) | (simp; omega)) _ | with_reducible refine Below.setCell ?_ (by first | omega | (simp; done) | (simp; omega)) _ | with_reducible refine below_more _ _ ?_ (by first | omega | (simp; done) | (simp; omega))))

theorem minus_in (a b : Qt) (h : (a.sub b).InR) (w : World) :
    Calls Tryd.prog 60 #[.agg #[.int .i64 a.w, .int .i64 a.x, .int .i64 a.y, .int .i64 a.z], .agg #[.int .i64 b.w, .int .i64 b.x, .int .i64 b.y, .int .i64 b.z]] w fun e w' => e = .returned (.agg #[.int .i64 (a.sub b).w, .int .i64 (a.sub b).x, .int .i64 (a.sub b).y, .int .i64 (a.sub b).z]) ∧ Below w.heap.size w w' := by
  have := minus_any a b w
  rwa [Qt.wr_InR h] at this

end Go.Proofs.YthajaabgcbjfkaaDoor

namespace Go.Proofs.YthajaabgcbjfkaaDoor
open Go.RowKit

set_option maxHeartbeats 400000 in
theorem quat_even (a : Qt) (h : a.InR) (he : a.w % 2 = 0) (w : World) :
    Calls Tryd.prog 37 #[.agg #[.int .i64 a.w, .int .i64 a.x, .int .i64 a.y, .int .i64 a.z]] w fun e w' => e = .returned (.agg #[.int .i64 a.toQ.w, .int .i64 a.toQ.x, .int .i64 a.toQ.y, .int .i64 a.toQ.z, .int .i64 a.toQ.d]) ∧ Below w.heap.size w w' := by
  have hv : a.toQ = ⟨a.w.tdiv 2, a.x.tdiv 2, a.y.tdiv 2, a.z.tdiv 2, 1⟩ := by simp [Qt.toQ, he]
  rw [hv]
  have ht : (a.w.tmod 2 == 0) = true := by rw [beq_iff_eq, tmod2]; exact he
  clear hv he
  go_enter Tryd.func37, Tryd.ntmps37
  go_wp2_with (first | (go_at_call 41; with_reducible refine (over_in a 2 _ (by omega) h).mono ?_; rintro e w1 ⟨rfl, hb1⟩; obtain ⟨g1, rfl⟩ := more_of_below hb1; clear hb1))
  refine bodyPost_ret (v := .agg #[.int .i64 (a.w.tdiv 2), .int .i64 (a.x.tdiv 2), .int .i64 (a.y.tdiv 2), .int .i64 (a.z.tdiv 2), .int .i64 1]) (by simp [results, Tryd.results37, go_sem, Qt.over, *]) rfl ⟨rfl, ?_⟩
  (repeat (first | with_reducible assumption | with_reducible exact Below.refl _ _ | with_reducible refine Below.drewN ?_ _ | with_reducible refine Below.drew ?_ | with_reducible refine Below.alloc ?_ (by first | omega | (simp; done) | (simp; omega)) _ | with_reducible refine Below.setCell ?_ (by first | omega | (simp; done) | (simp; omega)) _ | with_reducible refine below_more _ _ ?_ (by first | omega | (simp; done) | (simp; omega))))

set_option maxHeartbeats 400000 in
theorem quat_odd (a : Qt) (he : ¬ a.w % 2 = 0) (w : World) :
    Calls Tryd.prog 37 #[.agg #[.int .i64 a.w, .int .i64 a.x, .int .i64 a.y, .int .i64 a.z]] w fun e w' => e = .returned (.agg #[.int .i64 a.toQ.w, .int .i64 a.toQ.x, .int .i64 a.toQ.y, .int .i64 a.toQ.z, .int .i64 a.toQ.d]) ∧ Below w.heap.size w w' := by
  have hv : a.toQ = ⟨a.w, a.x, a.y, a.z, 2⟩ := by simp [Qt.toQ, he]
  rw [hv]
  have ht : (a.w.tmod 2 == 0) = false := by rw [beq_eq_false_iff_ne, ne_eq, tmod2]; exact he
  clear hv he
  go_enter Tryd.func37, Tryd.ntmps37
  go_wp2
  refine bodyPost_ret (v := .agg #[.int .i64 a.w, .int .i64 a.x, .int .i64 a.y, .int .i64 a.z, .int .i64 2]) (by simp [results, Tryd.results37, go_sem]) rfl ⟨rfl, ?_⟩
  (repeat (first | with_reducible assumption | with_reducible exact Below.refl _ _ | with_reducible refine Below.drewN ?_ _ | with_reducible refine Below.drew ?_ | with_reducible refine Below.alloc ?_ (by first | omega | (simp; done) | (simp; omega)) _ | with_reducible refine Below.setCell ?_ (by first | omega | (simp; done) | (simp; omega)) _ | with_reducible refine below_more _ _ ?_ (by first | omega | (simp; done) | (simp; omega))))

theorem quat_in (a : Qt) (h : a.InR) (w : World) :
    Calls Tryd.prog 37 #[.agg #[.int .i64 a.w, .int .i64 a.x, .int .i64 a.y, .int .i64 a.z]] w fun e w' => e = .returned (.agg #[.int .i64 a.toQ.w, .int .i64 a.toQ.x, .int .i64 a.toQ.y, .int .i64 a.toQ.z, .int .i64 a.toQ.d]) ∧ Below w.heap.size w w' := by
  by_cases he : a.w % 2 = 0
  · exact quat_even a h he w
  · exact quat_odd a he w



set_option maxHeartbeats 400000 in
theorem floor_in (a b : Int) (hb : 1 ≤ b) (ha1 : -4000000000000000000 ≤ a) (ha2 : a ≤ 4000000000000000000) (w : World) :
    Calls Tryd.prog 59 #[.int .i64 a, .int .i64 b] w fun e w' => e = .returned (.int .i64 (a / b)) ∧ w = w' := by
  have hb0 : ¬ b = 0 := by omega
  have bd := Qt.tdiv_bd a b 4000000000000000000 (by omega) hb ⟨ha1, ha2⟩
  have key : (0 ≤ a.tmod b → a.tdiv b = a / b) ∧ (a.tmod b < 0 → a.tdiv b - 1 = a / b) := floor_key a b hb
  obtain ⟨k1, k2⟩ := key
  have K1 := Lib.hid k1
  have K2 := Lib.hid k2
  clear k1 k2
  go_enter Tryd.func59, Tryd.ntmps59
  go_wp2
  · go_ret
    refine ⟨?_, rfl⟩
    have := K2.out (by assumption)
    simp [this]
  · go_ret
    refine ⟨?_, rfl⟩
    have := K1.out (by assumption)
    simp [this]

set_option maxHeartbeats 400000 in
theorem of_any (q : Qd) (w : World) :
    Calls Tryd.prog 78 #[.agg #[.int .i64 q.w, .int .i64 q.x, .int .i64 q.y, .int .i64 q.z, .int .i64 q.d]] w fun e w' => e = .returned (.agg #[.int .i64 q.w, .int .i64 q.x, .int .i64 q.y, .int .i64 q.z]) ∧ Below w.heap.size w w' := by
  go_enter Tryd.func78, Tryd.ntmps78
  go_wp2
  refine bodyPost_ret (v := .agg #[.int .i64 q.w, .int .i64 q.x, .int .i64 q.y, .int .i64 q.z]) (by simp [results, Tryd.results78, go_sem]) rfl ⟨rfl, ?_⟩
  (repeat (first | with_reducible assumption | with_reducible exact Below.refl _ _ | with_reducible refine Below.drewN ?_ _ | with_reducible refine Below.drew ?_ | with_reducible refine Below.alloc ?_ (by first | omega | (simp; done) | (simp; omega)) _ | with_reducible refine Below.setCell ?_ (by first | omega | (simp; done) | (simp; omega)) _ | with_reducible refine below_more _ _ ?_ (by first | omega | (simp; done) | (simp; omega))))

set_option maxRecDepth 10000 in
set_option maxHeartbeats 1000000 in
theorem checkQuat_any (q : Qd) (w : World) :
    Calls Tryd.prog 56 #[.agg #[.int .i64 q.w, .int .i64 q.x, .int .i64 q.y, .int .i64 q.z, .int .i64 q.d]] w fun e w' => e = .returned (.int .i64 q.err) ∧ Below w.heap.size w w' := by
  have i0 : ∀ (x y z t : Int) (w : World), (Instr.index 121 (.agg #[.int .i64 x, .int .i64 y, .int .i64 z, .int .i64 t]) (.int .i64 0)).run Tryd.prog w = .ok (.int .i64 x) w := fun _ _ _ _ _ => by kernel_rfl
  have i1 : ∀ (x y z t : Int) (w : World), (Instr.index 121 (.agg #[.int .i64 x, .int .i64 y, .int .i64 z, .int .i64 t]) (.int .i64 1)).run Tryd.prog w = .ok (.int .i64 y) w := fun _ _ _ _ _ => by kernel_rfl
  have i2 : ∀ (x y z t : Int) (w : World), (Instr.index 121 (.agg #[.int .i64 x, .int .i64 y, .int .i64 z, .int .i64 t]) (.int .i64 2)).run Tryd.prog w = .ok (.int .i64 z) w := fun _ _ _ _ _ => by kernel_rfl
  have i3 : ∀ (x y z t : Int) (w : World), (Instr.index 121 (.agg #[.int .i64 x, .int .i64 y, .int .i64 z, .int .i64 t]) (.int .i64 3)).run Tryd.prog w = .ok (.int .i64 t) w := fun _ _ _ _ _ => by kernel_rfl
  go_enter Tryd.func56, Tryd.ntmps56
  go_wp2_with (first | (go_at_call 78; with_reducible refine (of_any _ _).mono ?_; rintro e w1 ⟨rfl, hb1⟩; obtain ⟨g1, rfl⟩ := more_of_below hb1; clear hb1))
  go_rounds 5
  all_goals (go_ret; exact ⟨by first | (simp [Qd.err, Qd.okb]; done) | (simp [Qd.err, Qd.okb]; omega), by (repeat (first | with_reducible assumption | with_reducible exact Below.refl _ _ | with_reducible refine Below.drewN ?_ _ | with_reducible refine Below.drew ?_ | with_reducible refine Below.alloc ?_ (by first | omega | (simp; done) | (simp; omega)) _ | with_reducible refine Below.setCell ?_ (by first | omega | (simp; done) | (simp; omega)) _ | with_reducible refine below_more _ _ ?_ (by first | omega | (simp; done) | (simp; omega))))⟩)

end Go.Proofs.YthajaabgcbjfkaaDoor

namespace Go.Proofs.YthajaabgcbjfkaaDoor
open Go.RowKit

set_option maxRecDepth 10000 in
set_option maxHeartbeats 4000000 in
theorem read_any (q : Qd) (w : World) (hq : q.okb = true) :
    Calls Tryd.prog 57 #[.agg #[.int .i64 q.w, .int .i64 q.x, .int .i64 q.y, .int .i64 q.z, .int .i64 q.d]] w fun e w' => e = .returned (.tuple #[.agg #[.int .i64 ((if q.rdok then q.rdv.w else 0)), .int .i64 ((if q.rdok then q.rdv.x else 0)), .int .i64 ((if q.rdok then q.rdv.y else 0)), .int .i64 ((if q.rdok then q.rdv.z else 0))], .bool q.rdok]) ∧ Below w.heap.size w w' := by
  have hq' := hq
  simp only [Qd.okb, decide_eq_true_eq] at hq'
  clear hq
  obtain ⟨⟨hw1, hw2⟩, ⟨hx1, hx2⟩, ⟨hy1, hy2⟩, ⟨hz1, hz2⟩, hd1, hd2⟩ := hq'
  have hd0 : ¬ q.d = 0 := by omega
  have b1 := Qt.tdiv_bd (2 * q.w) q.d 2000000 (by omega) hd1 (by omega)
  have b2 := Qt.tdiv_bd (2 * q.x) q.d 2000000 (by omega) hd1 (by omega)
  have b3 := Qt.tdiv_bd (2 * q.y) q.d 2000000 (by omega) hd1 (by omega)
  have b4 := Qt.tdiv_bd (2 * q.z) q.d 2000000 (by omega) hd1 (by omega)
  generalize hok : q.rdok = ok
  generalize hv : q.rdv = v
  unfold Qd.rdok at hok
  unfold Qd.rdv at hv
  have HV := Lib.hid hv
  have HK := Lib.hid hok
  clear hv hok
  generalize hr0 : (if ok = true then v.w else 0) = r0
  generalize hr1 : (if ok = true then v.x else 0) = r1
  generalize hr2 : (if ok = true then v.y else 0) = r2
  generalize hr3 : (if ok = true then v.z else 0) = r3
  have H0 := Lib.hid hr0
  have H1 := Lib.hid hr1
  have H2 := Lib.hid hr2
  have H3 := Lib.hid hr3
  clear hr0 hr1 hr2 hr3
  go_enter Tryd.func57, Tryd.ntmps57
  go_wp2
  refine wp_loop_rounds 5 ?_
  repeat any_goals (rw [rounds_succ]; go_wp2; (all_goals (try (go_region; go_wp2))); (all_goals (try (go_region; go_wp2))))
  any_goals refine wp_loop_rounds 5 ?_
  repeat any_goals (rw [rounds_succ]; go_wp2; (all_goals (try (go_region; go_wp2))); (all_goals (try (go_region; go_wp2))))
  all_goals (have hk := HK.out; have h0 := H0.out; have h1 := H1.out; have h2 := H2.out; have h3 := H3.out; have hv := HV.out)
  all_goals (clear HK H0 H1 H2 H3 HV)
  all_goals (simp only [*, Bool.not_true, Bool.not_false, Bool.false_and, Bool.true_and] at hk)
  all_goals (subst hk; simp only [Bool.false_eq_true, if_false, if_true] at h0 h1 h2 h3; subst hv; subst h0; subst h1; subst h2; subst h3)
  all_goals (refine bodyPost_ret (v := .tuple #[.agg #[.int .i64 _, .int .i64 _, .int .i64 _, .int .i64 _], .bool _]) (by simp [results, Tryd.results57, go_sem]; done) rfl ⟨rfl, ?_⟩)
  all_goals ((repeat (first | with_reducible assumption | with_reducible exact Below.refl _ _ | with_reducible refine Below.drewN ?_ _ | with_reducible refine Below.drew ?_ | with_reducible refine Below.alloc ?_ (by first | omega | (simp; done) | (simp; omega)) _ | with_reducible refine Below.setCell ?_ (by first | omega | (simp; done) | (simp; omega)) _ | with_reducible refine below_more _ _ ?_ (by first | omega | (simp; done) | (simp; omega)))))

end Go.Proofs.YthajaabgcbjfkaaDoor

namespace Go.Proofs.YthajaabgcbjfkaaDoor
open Go.RowKit

theorem ext_mk {W w : World} (h : Below W.heap.size W w) : Ext W w := h
/-- The greatest common divisor of a list. -/
def gcdL (l : List Int) : Nat := l.foldl (fun g n => Nat.gcd g n.natAbs) 0
theorem gcdL_snoc (l : List Int) (x : Int) : gcdL (l ++ [x]) = Nat.gcd (gcdL l) x.natAbs := by simp [gcdL]
theorem gcdL_le (l : List Int) (B : Nat) (h : ∀ x ∈ l, x.natAbs ≤ B) : gcdL l ≤ B := by
  have key : ∀ (l : List Int) (g : Nat), g ≤ B → (∀ x ∈ l, x.natAbs ≤ B) → l.foldl (fun g n => Nat.gcd g n.natAbs) g ≤ B := by
    intro l
    induction l with
    | nil => intro g hg _; exact hg
    | cons x l ih =>
      intro g hg hl
      refine ih _ ?_ (fun y hy => hl y (by simp [hy]))
      show Nat.gcd g x.natAbs ≤ B
      by_cases h0 : g = 0
      · subst h0; rw [Nat.gcd_zero_left]; exact hl x (by simp)
      · exact Nat.le_trans (Nat.gcd_le_left _ (by omega)) hg
  exact key l 0 (by omega) h

theorem take_snoc {α : Type} {l : List α} {k : Nat} {x : α} (h : l[k]? = some x) : l.take (k + 1) = l.take k ++ [x] := by
  rw [List.take_add_one, h]; rfl

/-- What the inner loop keeps: the divisor stays. -/
def GcdInv (d : Nat) (g n : Value) : Prop := ∃ a b : Nat, g = .int .i64 a ∧ n = .int .i64 b ∧ Nat.gcd a b = d ∧ a ≤ 4000000000000000000 ∧ b ≤ 4000000000000000000

set_option maxRecDepth 10000 in
set_option maxHeartbeats 1000000 in
theorem gcd_any (l : List Int) (b off cap : Nat) (w : World) (hl : l.length ≤ 1000) (hc : ∀ (k : Nat) (x : Int), l[k]? = some x → w.cell? ⟨b, off + k, none⟩ = some (.int .i64 x)) (hb : b < w.heap.size)
    (hbd : ∀ x ∈ l, x.natAbs ≤ 4000000000000000000) :
    Calls Tryd.prog 42 #[.slice (some ⟨b, off, none⟩) l.length cap] w fun e w' => e = .returned (.int .i64 ((gcdL l : Int))) ∧ Below w.heap.size w w' := by
  have HC := Lib.hid hc
  clear hc
  generalize hn : l.length = n at *
  have HN := Lib.hid hn
  clear hn
  go_enter Tryd.func42, Tryd.ntmps42
  go_wp2
  go_loopw [3, 5, 8] (fun g _ i wr => ∃ k : Nat, k ≤ n ∧ i = .int .i64 k ∧ g = .int .i64 (((gcdL (l.take k) : Nat) : Int)) ∧ Ext w wr) (fun _ _ i _ => n - (intOf i).toNat)
  case atStart => exact ⟨0, Nat.zero_le _, rfl, by simp [gcdL], Ext.refl _⟩
  case round =>
    obtain ⟨k, hk, rfl, rfl, hext⟩ := hrel
    obtain ⟨g0, rfl⟩ := more_of_below (Ext.below hext)
    clear hext
    by_cases hlt : k < n
    · obtain ⟨x, hx⟩ : ∃ x, l[k]? = some x := ⟨l[k]'(by rw [HN.out]; exact hlt), List.getElem?_eq_getElem _⟩
      have hcell := HC.out k x hx
      have hxb := hbd x (List.mem_of_getElem? hx)
      have hgb := gcdL_le (l.take k) 4000000000000000000 (fun y hy => hbd y (List.mem_of_mem_take hy))
      have hsn := gcdL_snoc (l.take k) x
      rw [← take_snoc hx] at hsn
      have HS := Lib.hid hsn
      have HX := Lib.hid hx
      clear hsn hx
      have hx1 : -9223372036854775807 ≤ x := by omega
      have hx2 : x ≤ 9223372036854775807 := by omega
      go_wp2_with (first | (go_at_call 46; with_reducible refine (abs_any x _ hx1 hx2).mono ?_; rintro e w' ⟨rfl, rfl⟩))
      go_loopw [3, 5] (fun g m wr => GcdInv (gcdL (l.take (k + 1))) g m ∧ Ext w wr) (fun _ m _ => (intOf m).toNat)
      case atStart => exact ⟨⟨gcdL (l.take k), x.natAbs, rfl, rfl, HS.out.symm, hgb, hxb⟩, ext_mk (by (repeat (first | with_reducible assumption | with_reducible exact Below.refl _ _ | with_reducible refine Below.drewN ?_ _ | with_reducible refine Below.drew ?_ | with_reducible refine Below.alloc ?_ (by first | omega | (simp; done) | (simp; omega)) _ | with_reducible refine Below.setCell ?_ (by first | omega | (simp; done) | (simp; omega)) _ | with_reducible refine below_more _ _ ?_ (by first | omega | (simp; done) | (simp; omega)))))⟩
      case round =>
        obtain ⟨⟨p, q, rfl, rfl, hd, hp, hq⟩, hext⟩ := hrel
        have HD := Lib.hid hd
        clear hd
        obtain ⟨g1, rfl⟩ := more_of_below (Ext.below hext)
        clear hext
        by_cases hq0 : 0 < q
        · have hq1 : ¬ ((q : Int) = 0) := by omega
          have hm : (p : Int).tmod (q : Int) = ((p % q : Nat) : Int) := by rw [Int.tmod_eq_emod_of_nonneg (by omega)]; rfl
          go_wp2
          go_region
          go_wp2
          go_roundw
          case rel => exact ⟨⟨q, p % q, rfl, by first | rw [hm] | rfl, by rw [Nat.gcd_comm, ← Nat.gcd_rec, Nat.gcd_comm]; exact HD.out, hq, by have := Nat.mod_lt p hq0; omega⟩, ext_mk (by (repeat (first | with_reducible assumption | with_reducible exact Below.refl _ _ | with_reducible refine Below.drewN ?_ _ | with_reducible refine Below.drew ?_ | with_reducible refine Below.alloc ?_ (by first | omega | (simp; done) | (simp; omega)) _ | with_reducible refine Below.setCell ?_ (by first | omega | (simp; done) | (simp; omega)) _ | with_reducible refine below_more _ _ ?_ (by first | omega | (simp; done) | (simp; omega)))))⟩
          case measure => simp [intOf]; have := Nat.mod_lt p hq0; omega
        · have hq1 : q = 0 := by omega
          subst hq1
          go_wp2
          go_roundw
          case rel => exact ⟨k + 1, by omega, by go_num, by rw [← HD.out]; simp, ext_mk (by (repeat (first | with_reducible assumption | with_reducible exact Below.refl _ _ | with_reducible refine Below.drewN ?_ _ | with_reducible refine Below.drew ?_ | with_reducible refine Below.alloc ?_ (by first | omega | (simp; done) | (simp; omega)) _ | with_reducible refine Below.setCell ?_ (by first | omega | (simp; done) | (simp; omega)) _ | with_reducible refine below_more _ _ ?_ (by first | omega | (simp; done) | (simp; omega)))))⟩
          case measure => simp [intOf]; omega
    · go_wp2
      go_ret
      refine ⟨?_, by (repeat (first | with_reducible assumption | with_reducible exact Below.refl _ _ | with_reducible refine Below.drewN ?_ _ | with_reducible refine Below.drew ?_ | with_reducible refine Below.alloc ?_ (by first | omega | (simp; done) | (simp; omega)) _ | with_reducible refine Below.setCell ?_ (by first | omega | (simp; done) | (simp; omega)) _ | with_reducible refine below_more _ _ ?_ (by first | omega | (simp; done) | (simp; omega))))⟩
      have : l.take k = l := List.take_of_length_le (by rw [HN.out]; omega)
      simp [this]

end Go.Proofs.YthajaabgcbjfkaaDoor

namespace Go.Proofs.YthajaabgcbjfkaaDoor
open Go.RowKit

def cmpI (x y : Int) : Int := if x < y then -1 else if y < x then 1 else 0
def Qt.cmp (a b : Qt) : Int := if (cmpI a.w b.w != 0) = true then cmpI a.w b.w else if (cmpI a.x b.x != 0) = true then cmpI a.x b.x else if (cmpI a.y b.y != 0) = true then cmpI a.y b.y else cmpI a.z b.z

set_option maxHeartbeats 400000 in
theorem cmpI_any (x y : Int) (w : World) :
    Calls Tryd.prog 75 #[.int .i64 x, .int .i64 y] w fun e w' => e = .returned (.int .i64 (cmpI x y)) ∧ w = w' := by
  have h1 : ∀ a : Int, (a != a) = false := by simp
  go_enter Tryd.func75, Tryd.ntmps75
  go_wp2
  all_goals (go_ret; refine ⟨?_, rfl⟩; first | (simp [cmpI, *]; done) | (simp [cmpI]; omega))

set_option maxRecDepth 10000 in
set_option maxHeartbeats 1000000 in
theorem slicesCompare_any (a b : Qt) (b1 b2 c1 c2 : Nat) (w : World)
    (a0 : w.cell? ⟨b1, 0, none⟩ = some (.int .i64 a.w)) (a1 : w.cell? ⟨b1, 1, none⟩ = some (.int .i64 a.x)) (a2 : w.cell? ⟨b1, 2, none⟩ = some (.int .i64 a.y)) (a3 : w.cell? ⟨b1, 3, none⟩ = some (.int .i64 a.z))
    (d0 : w.cell? ⟨b2, 0, none⟩ = some (.int .i64 b.w)) (d1 : w.cell? ⟨b2, 1, none⟩ = some (.int .i64 b.x)) (d2 : w.cell? ⟨b2, 2, none⟩ = some (.int .i64 b.y)) (d3 : w.cell? ⟨b2, 3, none⟩ = some (.int .i64 b.z)) :
    Calls Tryd.prog 49 #[.slice (some ⟨b1, 0, none⟩) 4 c1, .slice (some ⟨b2, 0, none⟩) 4 c2] w fun e w' => e = .returned (.int .i64 (a.cmp b)) ∧ w = w' := by
  go_enter Tryd.func49, Tryd.ntmps49
  go_wp2_with (first | (go_at_call 75; with_reducible refine (cmpI_any _ _ _).mono ?_; rintro e w' ⟨rfl, rfl⟩))
  refine wp_loop_rounds 5 ?_
  repeat any_goals (rw [rounds_succ]; go_wp2_with (first | (go_at_call 75; with_reducible refine (cmpI_any _ _ _).mono ?_; rintro e w' ⟨rfl, rfl⟩)))
  all_goals (go_ret; refine ⟨?_, rfl⟩; first | (simp only [Qt.cmp, *]; simp; done) | (have hz : cmpI a.z b.z = 0 := (by simpa using ‹(cmpI a.z b.z != 0) = false›); simp only [Qt.cmp, *]; simp))

theorem same_below {v : Value} {w : World} : ∀ (e : Ending) (w' : World), (e = .returned v ∧ w = w') → e = .returned v ∧ Below w.heap.size w w' := fun _ _ ⟨he, hw⟩ => ⟨he, hw ▸ Below.refl _ _⟩

set_option maxHeartbeats 400000 in
theorem compare_any (a b : Qt) (w : World) :
    Calls Tryd.prog 22 #[.agg #[.int .i64 a.w, .int .i64 a.x, .int .i64 a.y, .int .i64 a.z], .agg #[.int .i64 b.w, .int .i64 b.x, .int .i64 b.y, .int .i64 b.z]] w fun e w' => e = .returned (.int .i64 (a.cmp b)) ∧ Below w.heap.size w w' := by
  go_enter Tryd.func22, Tryd.ntmps22
  go_wp2_with fail
  (refine wp_region_quiet (C := Ext _) (by kernel_rfl) (by kernel_rfl) (Ext.start _) ?_; simp only []; (repeat (refine wpQuiet_step (fun K hK => ?_); go_simp; (try go_bits); apply Exists.intro; refine ⟨fun w' hw' => ?_, hK _ ?_⟩; (focus (first | with_reducible exact rfl | (go_at_call 49; (obtain ⟨gx, rfl⟩ := more_of_below (Ext.below hw'); refine Ext.call hw' (Calls.mono (slicesCompare_any a b w.heap.size (w.heap.size + 1) 4 4 _ ?_ ?_ ?_ ?_ ?_ ?_ ?_ ?_) same_below); (iterate 8 (focus go_simp)))) | (obtain ⟨gx, rfl⟩ := more_of_below (Ext.below hw'); go_simp; exact rfl))); clear hK K)); refine wpQuiet_nil ?_; intro w1 hw1; have hb1 := Ext.below hw1; clear hw1; obtain ⟨g1, rfl⟩ := more_of_below hb1; clear hb1)
  go_wp2
  go_ret
  exact ⟨rfl, by (repeat (first | with_reducible assumption | with_reducible exact Below.refl _ _ | with_reducible refine Below.drewN ?_ _ | with_reducible refine Below.drew ?_ | with_reducible refine Below.alloc ?_ (by first | omega | (simp; done) | (simp; omega)) _ | with_reducible refine Below.setCell ?_ (by first | omega | (simp; done) | (simp; omega)) _ | with_reducible refine below_more _ _ ?_ (by first | omega | (simp; done) | (simp; omega))))⟩

end Go.Proofs.YthajaabgcbjfkaaDoor
