/- Contracts of the leaves, continued. -/
import Derived.Test.YthajaabgcbjfkaaA2
namespace Go.Proofs.Ythajaabgcbjfkaa
open Go.RowKit

set_option maxHeartbeats 400000 in
theorem quat_even (a : Qt) (h : a.InR) (he : a.w % 2 = 0) (w : World) :
    Calls Try.prog 67 #[.agg #[.int .i64 a.w, .int .i64 a.x, .int .i64 a.y, .int .i64 a.z]] w fun e w' => e = .returned (.agg #[.int .i64 a.toQ.w, .int .i64 a.toQ.x, .int .i64 a.toQ.y, .int .i64 a.toQ.z, .int .i64 a.toQ.d]) ∧ Below w.heap.size w w' := by
  have hv : a.toQ = ⟨a.w.tdiv 2, a.x.tdiv 2, a.y.tdiv 2, a.z.tdiv 2, 1⟩ := by simp [Qt.toQ, he]
  rw [hv]
  have ht : (a.w.tmod 2 == 0) = true := by rw [beq_iff_eq, tmod2]; exact he
  clear hv he
  go_enter Try.func67, Try.ntmps67
  go_wp2_with (first | (go_at_call 113; with_reducible refine (over_in a 2 _ (by omega) h).mono ?_; rintro e w1 ⟨rfl, hb1⟩; obtain ⟨g1, rfl⟩ := more_of_below hb1; clear hb1))
  refine bodyPost_ret (v := .agg #[.int .i64 (a.w.tdiv 2), .int .i64 (a.x.tdiv 2), .int .i64 (a.y.tdiv 2), .int .i64 (a.z.tdiv 2), .int .i64 1]) (by simp [results, Try.results67, go_sem, Qt.over, *]) rfl ⟨rfl, ?_⟩
  (repeat (first | with_reducible assumption | with_reducible exact Below.refl _ _ | with_reducible refine Below.drewN ?_ _ | with_reducible refine Below.drew ?_ | with_reducible refine Below.alloc ?_ (by first | omega | (simp; done) | (simp; omega)) _ | with_reducible refine Below.setCell ?_ (by first | omega | (simp; done) | (simp; omega)) _ | with_reducible refine below_more _ _ ?_ (by first | omega | (simp; done) | (simp; omega))))

set_option maxHeartbeats 400000 in
theorem quat_odd (a : Qt) (he : ¬ a.w % 2 = 0) (w : World) :
    Calls Try.prog 67 #[.agg #[.int .i64 a.w, .int .i64 a.x, .int .i64 a.y, .int .i64 a.z]] w fun e w' => e = .returned (.agg #[.int .i64 a.toQ.w, .int .i64 a.toQ.x, .int .i64 a.toQ.y, .int .i64 a.toQ.z, .int .i64 a.toQ.d]) ∧ Below w.heap.size w w' := by
  have hv : a.toQ = ⟨a.w, a.x, a.y, a.z, 2⟩ := by simp [Qt.toQ, he]
  rw [hv]
  have ht : (a.w.tmod 2 == 0) = false := by rw [beq_eq_false_iff_ne, ne_eq, tmod2]; exact he
  clear hv he
  go_enter Try.func67, Try.ntmps67
  go_wp2
  refine bodyPost_ret (v := .agg #[.int .i64 a.w, .int .i64 a.x, .int .i64 a.y, .int .i64 a.z, .int .i64 2]) (by simp [results, Try.results67, go_sem]) rfl ⟨rfl, ?_⟩
  (repeat (first | with_reducible assumption | with_reducible exact Below.refl _ _ | with_reducible refine Below.drewN ?_ _ | with_reducible refine Below.drew ?_ | with_reducible refine Below.alloc ?_ (by first | omega | (simp; done) | (simp; omega)) _ | with_reducible refine Below.setCell ?_ (by first | omega | (simp; done) | (simp; omega)) _ | with_reducible refine below_more _ _ ?_ (by first | omega | (simp; done) | (simp; omega))))

theorem quat_in (a : Qt) (h : a.InR) (w : World) :
    Calls Try.prog 67 #[.agg #[.int .i64 a.w, .int .i64 a.x, .int .i64 a.y, .int .i64 a.z]] w fun e w' => e = .returned (.agg #[.int .i64 a.toQ.w, .int .i64 a.toQ.x, .int .i64 a.toQ.y, .int .i64 a.toQ.z, .int .i64 a.toQ.d]) ∧ Below w.heap.size w w' := by
  by_cases he : a.w % 2 = 0
  · exact quat_even a h he w
  · exact quat_odd a he w

set_option maxHeartbeats 400000 in
theorem before_in (a b : Qt) (ha : b.InR) (hn : b.nrm ≤ 4000000000000000000) (hn1 : 4 ≤ b.nrm) (h : (b.conj.mul a).InR) (w : World) :
    Calls Try.prog 107 #[.agg #[.int .i64 a.w, .int .i64 a.x, .int .i64 a.y, .int .i64 a.z], .agg #[.int .i64 b.w, .int .i64 b.x, .int .i64 b.y, .int .i64 b.z]] w fun e w' => e = .returned (.agg #[.int .i64 ((b.conj.mul a).over (2 * (b.nrm / 4))).w, .int .i64 ((b.conj.mul a).over (2 * (b.nrm / 4))).x, .int .i64 ((b.conj.mul a).over (2 * (b.nrm / 4))).y, .int .i64 ((b.conj.mul a).over (2 * (b.nrm / 4))).z]) ∧ Below w.heap.size w w' := by
  go_enter Try.func107, Try.ntmps107
  go_wp2_with fail
  (refine wp_region_calm_tail 11 (Ext _) (by kernel_rfl) (by kernel_rfl) (Ext.start _) ?_; simp only [List.take_succ_cons, List.take_zero, List.drop_succ_cons, List.drop_zero]; (repeat (refine wpQuiet_step (fun K hK => ?_); go_simp; (try go_bits); apply Exists.intro; refine ⟨fun w' hw' => ?_, hK _ ?_⟩; (focus (first | with_reducible exact rfl | (go_at_call 109; with_reducible exact Ext.call hw' (conj_in _ _ ha)) | (go_at_call 110; with_reducible exact Ext.call hw' (times_in _ _ _ h)) | (go_at_call 79; with_reducible exact Ext.call hw' (hnorm_any _ (by omega) _)) | (go_at_call 113; with_reducible exact Ext.call hw' (over_in _ _ _ (by omega) h)) | (obtain ⟨gx, rfl⟩ := more_of_below (Ext.below hw'); go_simp; exact rfl))); clear hK K)); refine wpQuiet_nil ?_; intro w1 hw1; have hb1 := Ext.below hw1; clear hw1; obtain ⟨g1, rfl⟩ := more_of_below hb1; clear hb1)
  go_wp2
  refine bodyPost_ret (v := .agg #[.int .i64 ((b.conj.mul a).over (2 * (b.nrm / 4))).w, .int .i64 ((b.conj.mul a).over (2 * (b.nrm / 4))).x, .int .i64 ((b.conj.mul a).over (2 * (b.nrm / 4))).y, .int .i64 ((b.conj.mul a).over (2 * (b.nrm / 4))).z]) (by simp [results, Try.results107, go_sem, *]) rfl ⟨rfl, ?_⟩
  (repeat (first | with_reducible assumption | with_reducible exact Below.refl _ _ | with_reducible refine Below.drewN ?_ _ | with_reducible refine Below.drew ?_ | with_reducible refine Below.alloc ?_ (by first | omega | (simp; done) | (simp; omega)) _ | with_reducible refine Below.setCell ?_ (by first | omega | (simp; done) | (simp; omega)) _ | with_reducible refine below_more _ _ ?_ (by first | omega | (simp; done) | (simp; omega))))

set_option maxHeartbeats 400000 in
theorem number_in (n : Int) (h0 : 0 ≤ n) (h1 : n ≤ 1000000000) (w : World) :
    Calls Try.prog 106 #[.int .i64 n] w fun e w' => e = .returned (.agg #[.int .i64 (2 * n), .int .i64 0, .int .i64 0, .int .i64 0]) ∧ Below w.heap.size w w' := by
  go_enter Try.func106, Try.ntmps106
  go_wp2
  refine bodyPost_ret (v := .agg #[.int .i64 (2 * n), .int .i64 0, .int .i64 0, .int .i64 0]) (by simp [results, Try.results106, go_sem]) rfl ⟨rfl, ?_⟩
  (repeat (first | with_reducible assumption | with_reducible exact Below.refl _ _ | with_reducible refine Below.drewN ?_ _ | with_reducible refine Below.drew ?_ | with_reducible refine Below.alloc ?_ (by first | omega | (simp; done) | (simp; omega)) _ | with_reducible refine Below.setCell ?_ (by first | omega | (simp; done) | (simp; omega)) _ | with_reducible refine below_more _ _ ?_ (by first | omega | (simp; done) | (simp; omega))))

set_option maxHeartbeats 400000 in
theorem floor_in (a b : Int) (hb : 1 ≤ b) (ha1 : -4000000000000000000 ≤ a) (ha2 : a ≤ 4000000000000000000) (w : World) :
    Calls Try.prog 111 #[.int .i64 a, .int .i64 b] w fun e w' => e = .returned (.int .i64 (a / b)) ∧ w = w' := by
  have hb0 : ¬ b = 0 := by omega
  have bd := Qt.tdiv_bd a b 4000000000000000000 (by omega) hb ⟨ha1, ha2⟩
  have key : (0 ≤ a.tmod b → a.tdiv b = a / b) ∧ (a.tmod b < 0 → a.tdiv b - 1 = a / b) := floor_key a b hb
  obtain ⟨k1, k2⟩ := key
  have K1 := Lib.hid k1
  have K2 := Lib.hid k2
  clear k1 k2
  go_enter Try.func111, Try.ntmps111
  go_wp2
  · go_ret
    refine ⟨?_, rfl⟩
    have := K2.out (by assumption)
    simp [this]
  · go_ret
    refine ⟨?_, rfl⟩
    have := K1.out (by assumption)
    simp [this]

set_option maxHeartbeats 400000 in
theorem of_any (q : Qd) (w : World) :
    Calls Try.prog 122 #[.agg #[.int .i64 q.w, .int .i64 q.x, .int .i64 q.y, .int .i64 q.z, .int .i64 q.d]] w fun e w' => e = .returned (.agg #[.int .i64 q.w, .int .i64 q.x, .int .i64 q.y, .int .i64 q.z]) ∧ Below w.heap.size w w' := by
  go_enter Try.func122, Try.ntmps122
  go_wp2
  refine bodyPost_ret (v := .agg #[.int .i64 q.w, .int .i64 q.x, .int .i64 q.y, .int .i64 q.z]) (by simp [results, Try.results122, go_sem]) rfl ⟨rfl, ?_⟩
  (repeat (first | with_reducible assumption | with_reducible exact Below.refl _ _ | with_reducible refine Below.drewN ?_ _ | with_reducible refine Below.drew ?_ | with_reducible refine Below.alloc ?_ (by first | omega | (simp; done) | (simp; omega)) _ | with_reducible refine Below.setCell ?_ (by first | omega | (simp; done) | (simp; omega)) _ | with_reducible refine below_more _ _ ?_ (by first | omega | (simp; done) | (simp; omega))))

set_option maxRecDepth 10000 in
set_option maxHeartbeats 1000000 in
theorem checkQuat_any (q : Qd) (w : World) :
    Calls Try.prog 87 #[.agg #[.int .i64 q.w, .int .i64 q.x, .int .i64 q.y, .int .i64 q.z, .int .i64 q.d]] w fun e w' => e = .returned (.int .i64 q.err) ∧ Below w.heap.size w w' := by
  have i0 : ∀ (x y z t : Int) (w : World), (Instr.index 144 (.agg #[.int .i64 x, .int .i64 y, .int .i64 z, .int .i64 t]) (.int .i64 0)).run Try.prog w = .ok (.int .i64 x) w := fun _ _ _ _ _ => by kernel_rfl
  have i1 : ∀ (x y z t : Int) (w : World), (Instr.index 144 (.agg #[.int .i64 x, .int .i64 y, .int .i64 z, .int .i64 t]) (.int .i64 1)).run Try.prog w = .ok (.int .i64 y) w := fun _ _ _ _ _ => by kernel_rfl
  have i2 : ∀ (x y z t : Int) (w : World), (Instr.index 144 (.agg #[.int .i64 x, .int .i64 y, .int .i64 z, .int .i64 t]) (.int .i64 2)).run Try.prog w = .ok (.int .i64 z) w := fun _ _ _ _ _ => by kernel_rfl
  have i3 : ∀ (x y z t : Int) (w : World), (Instr.index 144 (.agg #[.int .i64 x, .int .i64 y, .int .i64 z, .int .i64 t]) (.int .i64 3)).run Try.prog w = .ok (.int .i64 t) w := fun _ _ _ _ _ => by kernel_rfl
  go_enter Try.func87, Try.ntmps87
  go_wp2_with (first | (go_at_call 122; with_reducible refine (of_any _ _).mono ?_; rintro e w1 ⟨rfl, hb1⟩; obtain ⟨g1, rfl⟩ := more_of_below hb1; clear hb1))
  go_rounds 5
  all_goals (go_ret; exact ⟨by first | (simp [Qd.err, Qd.okb]; done) | (simp [Qd.err, Qd.okb]; omega), by (repeat (first | with_reducible assumption | with_reducible exact Below.refl _ _ | with_reducible refine Below.drewN ?_ _ | with_reducible refine Below.drew ?_ | with_reducible refine Below.alloc ?_ (by first | omega | (simp; done) | (simp; omega)) _ | with_reducible refine Below.setCell ?_ (by first | omega | (simp; done) | (simp; omega)) _ | with_reducible refine below_more _ _ ?_ (by first | omega | (simp; done) | (simp; omega))))⟩)

end Go.Proofs.Ythajaabgcbjfkaa
