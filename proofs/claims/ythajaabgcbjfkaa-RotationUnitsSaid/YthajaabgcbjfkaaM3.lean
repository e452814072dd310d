/- Contracts: the rotation of a quaternion. -/
import Derived.Test.YthajaabgcbjfkaaM2
import Derived.Test.YthajaabgcbjfkaaH1
namespace Go.Proofs.Ythajaabgcbjfkaa
open Go.RowKit
namespace Qt
def e1 : Qt := ⟨0, 1, 0, 0⟩
def e2 : Qt := ⟨0, 0, 1, 0⟩
def e3 : Qt := ⟨0, 0, 0, 1⟩
/-- The image of a unit vector. -/
def im (a v : Qt) : Qt := (a.mul v).mul a.conj
/-- The rotation of a quaternion, not yet in lowest terms. -/
def rot (a : Qt) : Rt := ⟨(a.im e1).x, (a.im e2).x, (a.im e3).x, (a.im e1).y, (a.im e2).y, (a.im e3).y, (a.im e1).z, (a.im e2).z, (a.im e3).z, a.nrm⟩
theorem nrm_im (a v : Qt) : (a.im v).nrm = a.nrm * v.nrm * a.nrm := by unfold im; rw [nrm_mul, nrm_mul, nrm_conj]
theorem im_bd {a v : Qt} (h : a.nrm ≤ 4000000000000) (hv : v.nrm = 1) : Bd 4000000000000 (a.im v) := by
  have h0 := a.nrm_nonneg
  refine bd_of_nrm (by omega) ?_
  rw [nrm_im, hv, Int.mul_one]
  exact Int.le_trans (Int.mul_le_mul_of_nonneg_left h h0) (Int.mul_le_mul_of_nonneg_right h (by omega))
theorem nrm_e1 : e1.nrm = 1 := by decide
theorem nrm_e2 : e2.nrm = 1 := by decide
theorem nrm_e3 : e3.nrm = 1 := by decide
theorem rot_In {a : Qt} (h0 : 1 ≤ a.nrm) (h : a.nrm ≤ 4000000000000) : a.rot.In := by
  obtain ⟨_, a1, a2, a3⟩ := im_bd h nrm_e1
  obtain ⟨_, b1, b2, b3⟩ := im_bd h nrm_e2
  obtain ⟨_, c1, c2, c3⟩ := im_bd h nrm_e3
  constructor <;> (simp only [rot]; omega)
end Qt

set_option maxRecDepth 100000 in
set_option maxHeartbeats 4000000 in
theorem matrix_walk (a c p1 p2 p3 i1 i2 i3 : Qt) (n : Int) (v : Value) (r : Value) (z : Int) (hv : v = .tuple #[r, .int .i64 z]) (ra rb rc rd re rf rg rh ri rn : Int) (hr : r = .agg #[.int .i64 ra, .int .i64 rb, .int .i64 rc, .int .i64 rd, .int .i64 re, .int .i64 rf, .int .i64 rg, .int .i64 rh, .int .i64 ri, .int .i64 rn])
    (t1 : ∀ w, Calls Try.prog 110 #[.agg #[.int .i64 a.w, .int .i64 a.x, .int .i64 a.y, .int .i64 a.z], .agg #[.int .i64 0, .int .i64 1, .int .i64 0, .int .i64 0]] w fun e w' => e = .returned (.agg #[.int .i64 p1.w, .int .i64 p1.x, .int .i64 p1.y, .int .i64 p1.z]) ∧ Below w.heap.size w w')
    (t2 : ∀ w, Calls Try.prog 110 #[.agg #[.int .i64 a.w, .int .i64 a.x, .int .i64 a.y, .int .i64 a.z], .agg #[.int .i64 0, .int .i64 0, .int .i64 1, .int .i64 0]] w fun e w' => e = .returned (.agg #[.int .i64 p2.w, .int .i64 p2.x, .int .i64 p2.y, .int .i64 p2.z]) ∧ Below w.heap.size w w')
    (t3 : ∀ w, Calls Try.prog 110 #[.agg #[.int .i64 a.w, .int .i64 a.x, .int .i64 a.y, .int .i64 a.z], .agg #[.int .i64 0, .int .i64 0, .int .i64 0, .int .i64 1]] w fun e w' => e = .returned (.agg #[.int .i64 p3.w, .int .i64 p3.x, .int .i64 p3.y, .int .i64 p3.z]) ∧ Below w.heap.size w w')
    (u1 : ∀ w, Calls Try.prog 110 #[.agg #[.int .i64 p1.w, .int .i64 p1.x, .int .i64 p1.y, .int .i64 p1.z], .agg #[.int .i64 c.w, .int .i64 c.x, .int .i64 c.y, .int .i64 c.z]] w fun e w' => e = .returned (.agg #[.int .i64 i1.w, .int .i64 i1.x, .int .i64 i1.y, .int .i64 i1.z]) ∧ Below w.heap.size w w')
    (u2 : ∀ w, Calls Try.prog 110 #[.agg #[.int .i64 p2.w, .int .i64 p2.x, .int .i64 p2.y, .int .i64 p2.z], .agg #[.int .i64 c.w, .int .i64 c.x, .int .i64 c.y, .int .i64 c.z]] w fun e w' => e = .returned (.agg #[.int .i64 i2.w, .int .i64 i2.x, .int .i64 i2.y, .int .i64 i2.z]) ∧ Below w.heap.size w w')
    (u3 : ∀ w, Calls Try.prog 110 #[.agg #[.int .i64 p3.w, .int .i64 p3.x, .int .i64 p3.y, .int .i64 p3.z], .agg #[.int .i64 c.w, .int .i64 c.x, .int .i64 c.y, .int .i64 c.z]] w fun e w' => e = .returned (.agg #[.int .i64 i3.w, .int .i64 i3.x, .int .i64 i3.y, .int .i64 i3.z]) ∧ Below w.heap.size w w')
    (hc : ∀ w, Calls Try.prog 109 #[.agg #[.int .i64 a.w, .int .i64 a.x, .int .i64 a.y, .int .i64 a.z]] w fun e w' => e = .returned (.agg #[.int .i64 c.w, .int .i64 c.x, .int .i64 c.y, .int .i64 c.z]) ∧ Below w.heap.size w w')
    (hs : ∀ w, Calls Try.prog 120 #[.agg #[.int .i64 a.w, .int .i64 a.x, .int .i64 a.y, .int .i64 a.z]] w fun e w' => e = .returned (.int .i64 n) ∧ Below w.heap.size w w')
    (hl : ∀ w, Calls Try.prog 101 #[.agg #[.int .i64 i1.x, .int .i64 i2.x, .int .i64 i3.x, .int .i64 i1.y, .int .i64 i2.y, .int .i64 i3.y, .int .i64 i1.z, .int .i64 i2.z, .int .i64 i3.z], .int .i64 n] w fun e w' => e = .returned v ∧ Below w.heap.size w w') (w : World) :
    Calls Try.prog 92 #[.agg #[.int .i64 a.w, .int .i64 a.x, .int .i64 a.y, .int .i64 a.z]] w fun e w' => e = .returned v ∧ Below w.heap.size w w' := by
  subst hv hr
  have T1 := Lib.hid t1; have T2 := Lib.hid t2; have T3 := Lib.hid t3
  have U1 := Lib.hid u1; have U2 := Lib.hid u2; have U3 := Lib.hid u3
  have HC := Lib.hid hc; have HS := Lib.hid hs; have HL := Lib.hid hl
  clear t1 t2 t3 u1 u2 u3 hc hs hl
  go_enter Try.func92, Try.ntmps92
  go_wp2
  refine wp_loop_rounds 4 ?_
  rw [rounds_succ]
  go_wp2_with fail
  (apply wp_region_own 7 [.inl _, .inl _, .inl _, .inl _, .inl _, .inl _, .inr (.cells #[.int .i64 0, .int .i64 0, .int .i64 0, .int .i64 0] 94)] (by kernel_rfl) (by kernel_rfl); simp only [List.take_succ_cons, List.take_zero, List.drop_succ_cons, List.drop_zero]; (refine lexM_val rfl (fun K hK => ?_); go_simp; (try go_bits); refine ⟨fun w' hw' => ?_, hK _ ?_⟩; (focus (first | with_reducible exact rfl | (go_at_call 110; (first | with_reducible exact T1.out _ | with_reducible exact U1.out _)) | (go_at_call 109; (with_reducible exact HC.out _)) | (obtain ⟨gx, rfl⟩ := more_of_below (Ext.below hw'); go_simp; exact rfl))); clear hK K); (refine lexM_val rfl (fun K hK => ?_); go_simp; (try go_bits); refine ⟨fun w' hw' => ?_, hK _ ?_⟩; (focus (first | with_reducible exact rfl | (go_at_call 110; (first | with_reducible exact T1.out _ | with_reducible exact U1.out _)) | (go_at_call 109; (with_reducible exact HC.out _)) | (obtain ⟨gx, rfl⟩ := more_of_below (Ext.below hw'); go_simp; exact rfl))); clear hK K); (refine lexM_val rfl (fun K hK => ?_); go_simp; (try go_bits); refine ⟨fun w' hw' => ?_, hK _ ?_⟩; (focus (first | with_reducible exact rfl | (go_at_call 110; (first | with_reducible exact T1.out _ | with_reducible exact U1.out _)) | (go_at_call 109; (with_reducible exact HC.out _)) | (obtain ⟨gx, rfl⟩ := more_of_below (Ext.below hw'); go_simp; exact rfl))); clear hK K); (refine lexM_val rfl (fun K hK => ?_); go_simp; (try go_bits); refine ⟨fun w' hw' => ?_, hK _ ?_⟩; (focus (first | with_reducible exact rfl | (go_at_call 110; (first | with_reducible exact T1.out _ | with_reducible exact U1.out _)) | (go_at_call 109; (with_reducible exact HC.out _)) | (obtain ⟨gx, rfl⟩ := more_of_below (Ext.below hw'); go_simp; exact rfl))); clear hK K); (refine lexM_val rfl (fun K hK => ?_); go_simp; (try go_bits); refine ⟨fun w' hw' => ?_, hK _ ?_⟩; (focus (first | with_reducible exact rfl | (go_at_call 110; (first | with_reducible exact T1.out _ | with_reducible exact U1.out _)) | (go_at_call 109; (with_reducible exact HC.out _)) | (obtain ⟨gx, rfl⟩ := more_of_below (Ext.below hw'); go_simp; exact rfl))); clear hK K); (refine lexM_val rfl (fun K hK => ?_); go_simp; (try go_bits); refine ⟨fun w' hw' => ?_, hK _ ?_⟩; (focus (first | with_reducible exact rfl | (go_at_call 110; (first | with_reducible exact T1.out _ | with_reducible exact U1.out _)) | (go_at_call 109; (with_reducible exact HC.out _)) | (obtain ⟨gx, rfl⟩ := more_of_below (Ext.below hw'); go_simp; exact rfl))); clear hK K); (refine lexM_mem rfl rfl (fun w => by first | rfl | (go_simp; rfl)) (fun b11 hb11 hn11 => ?_); simp only [Act.put, List.setIfInBounds_toArray, List.set_cons_succ, List.set_cons_zero]); intro w1 hw1; have hB1 := hw1.1; have hO11 := (hw1.2 b11 _ (Or.inl ⟨rfl, rfl⟩)).2; clear hn11 hw1; obtain ⟨g1, g1', hE1, rfl⟩ := split_block hB1 hb11 hO11; clear hB1 hb11 hO11; (repeat (first | simp only [size_more_eq] at hE1 | simp only [World.size_alloc] at hE1)); subst hE1)
  go_wp2
  refine wp_loop_rounds 4 ?_
  iterate 3 (rw [rounds_succ]; go_wp2; go_region; go_wp2)
  rw [rounds_succ]
  go_wp2
  rw [rounds_succ]
  go_wp2_with fail
  (apply wp_region_own 7 [.inl _, .inl _, .inl _, .inl _, .inl _, .inl _, .inr (.cells #[.int .i64 0, .int .i64 0, .int .i64 0, .int .i64 0] 94)] (by kernel_rfl) (by kernel_rfl); simp only [List.take_succ_cons, List.take_zero, List.drop_succ_cons, List.drop_zero]; (refine lexM_val rfl (fun K hK => ?_); go_simp; (try go_bits); refine ⟨fun w' hw' => ?_, hK _ ?_⟩; (focus (first | with_reducible exact rfl | (go_at_call 110; (first | with_reducible exact T2.out _ | with_reducible exact U2.out _)) | (go_at_call 109; (with_reducible exact HC.out _)) | (obtain ⟨gx, rfl⟩ := more_of_below (Ext.below hw'); go_simp; exact rfl))); clear hK K); (refine lexM_val rfl (fun K hK => ?_); go_simp; (try go_bits); refine ⟨fun w' hw' => ?_, hK _ ?_⟩; (focus (first | with_reducible exact rfl | (go_at_call 110; (first | with_reducible exact T2.out _ | with_reducible exact U2.out _)) | (go_at_call 109; (with_reducible exact HC.out _)) | (obtain ⟨gx, rfl⟩ := more_of_below (Ext.below hw'); go_simp; exact rfl))); clear hK K); (refine lexM_val rfl (fun K hK => ?_); go_simp; (try go_bits); refine ⟨fun w' hw' => ?_, hK _ ?_⟩; (focus (first | with_reducible exact rfl | (go_at_call 110; (first | with_reducible exact T2.out _ | with_reducible exact U2.out _)) | (go_at_call 109; (with_reducible exact HC.out _)) | (obtain ⟨gx, rfl⟩ := more_of_below (Ext.below hw'); go_simp; exact rfl))); clear hK K); (refine lexM_val rfl (fun K hK => ?_); go_simp; (try go_bits); refine ⟨fun w' hw' => ?_, hK _ ?_⟩; (focus (first | with_reducible exact rfl | (go_at_call 110; (first | with_reducible exact T2.out _ | with_reducible exact U2.out _)) | (go_at_call 109; (with_reducible exact HC.out _)) | (obtain ⟨gx, rfl⟩ := more_of_below (Ext.below hw'); go_simp; exact rfl))); clear hK K); (refine lexM_val rfl (fun K hK => ?_); go_simp; (try go_bits); refine ⟨fun w' hw' => ?_, hK _ ?_⟩; (focus (first | with_reducible exact rfl | (go_at_call 110; (first | with_reducible exact T2.out _ | with_reducible exact U2.out _)) | (go_at_call 109; (with_reducible exact HC.out _)) | (obtain ⟨gx, rfl⟩ := more_of_below (Ext.below hw'); go_simp; exact rfl))); clear hK K); (refine lexM_val rfl (fun K hK => ?_); go_simp; (try go_bits); refine ⟨fun w' hw' => ?_, hK _ ?_⟩; (focus (first | with_reducible exact rfl | (go_at_call 110; (first | with_reducible exact T2.out _ | with_reducible exact U2.out _)) | (go_at_call 109; (with_reducible exact HC.out _)) | (obtain ⟨gx, rfl⟩ := more_of_below (Ext.below hw'); go_simp; exact rfl))); clear hK K); (refine lexM_mem rfl rfl (fun w => by first | rfl | (go_simp; rfl)) (fun b21 hb21 hn21 => ?_); simp only [Act.put, List.setIfInBounds_toArray, List.set_cons_succ, List.set_cons_zero]); intro w2 hw2; have hB2 := hw2.1; have hO21 := (hw2.2 b21 _ (Or.inl ⟨rfl, rfl⟩)).2; clear hn21 hw2; obtain ⟨g2, g2', hE2, rfl⟩ := split_block hB2 hb21 hO21; clear hB2 hb21 hO21; (repeat (first | simp only [size_more_eq] at hE2 | simp only [World.size_alloc] at hE2)); subst hE2)
  go_wp2
  refine wp_loop_rounds 4 ?_
  iterate 3 (rw [rounds_succ]; go_wp2; go_region; go_wp2)
  rw [rounds_succ]
  go_wp2
  rw [rounds_succ]
  go_wp2_with fail
  (apply wp_region_own 7 [.inl _, .inl _, .inl _, .inl _, .inl _, .inl _, .inr (.cells #[.int .i64 0, .int .i64 0, .int .i64 0, .int .i64 0] 94)] (by kernel_rfl) (by kernel_rfl); simp only [List.take_succ_cons, List.take_zero, List.drop_succ_cons, List.drop_zero]; (refine lexM_val rfl (fun K hK => ?_); go_simp; (try go_bits); refine ⟨fun w' hw' => ?_, hK _ ?_⟩; (focus (first | with_reducible exact rfl | (go_at_call 110; (first | with_reducible exact T3.out _ | with_reducible exact U3.out _)) | (go_at_call 109; (with_reducible exact HC.out _)) | (obtain ⟨gx, rfl⟩ := more_of_below (Ext.below hw'); go_simp; exact rfl))); clear hK K); (refine lexM_val rfl (fun K hK => ?_); go_simp; (try go_bits); refine ⟨fun w' hw' => ?_, hK _ ?_⟩; (focus (first | with_reducible exact rfl | (go_at_call 110; (first | with_reducible exact T3.out _ | with_reducible exact U3.out _)) | (go_at_call 109; (with_reducible exact HC.out _)) | (obtain ⟨gx, rfl⟩ := more_of_below (Ext.below hw'); go_simp; exact rfl))); clear hK K); (refine lexM_val rfl (fun K hK => ?_); go_simp; (try go_bits); refine ⟨fun w' hw' => ?_, hK _ ?_⟩; (focus (first | with_reducible exact rfl | (go_at_call 110; (first | with_reducible exact T3.out _ | with_reducible exact U3.out _)) | (go_at_call 109; (with_reducible exact HC.out _)) | (obtain ⟨gx, rfl⟩ := more_of_below (Ext.below hw'); go_simp; exact rfl))); clear hK K); (refine lexM_val rfl (fun K hK => ?_); go_simp; (try go_bits); refine ⟨fun w' hw' => ?_, hK _ ?_⟩; (focus (first | with_reducible exact rfl | (go_at_call 110; (first | with_reducible exact T3.out _ | with_reducible exact U3.out _)) | (go_at_call 109; (with_reducible exact HC.out _)) | (obtain ⟨gx, rfl⟩ := more_of_below (Ext.below hw'); go_simp; exact rfl))); clear hK K); (refine lexM_val rfl (fun K hK => ?_); go_simp; (try go_bits); refine ⟨fun w' hw' => ?_, hK _ ?_⟩; (focus (first | with_reducible exact rfl | (go_at_call 110; (first | with_reducible exact T3.out _ | with_reducible exact U3.out _)) | (go_at_call 109; (with_reducible exact HC.out _)) | (obtain ⟨gx, rfl⟩ := more_of_below (Ext.below hw'); go_simp; exact rfl))); clear hK K); (refine lexM_val rfl (fun K hK => ?_); go_simp; (try go_bits); refine ⟨fun w' hw' => ?_, hK _ ?_⟩; (focus (first | with_reducible exact rfl | (go_at_call 110; (first | with_reducible exact T3.out _ | with_reducible exact U3.out _)) | (go_at_call 109; (with_reducible exact HC.out _)) | (obtain ⟨gx, rfl⟩ := more_of_below (Ext.below hw'); go_simp; exact rfl))); clear hK K); (refine lexM_mem rfl rfl (fun w => by first | rfl | (go_simp; rfl)) (fun b31 hb31 hn31 => ?_); simp only [Act.put, List.setIfInBounds_toArray, List.set_cons_succ, List.set_cons_zero]); intro w3 hw3; have hB3 := hw3.1; have hO31 := (hw3.2 b31 _ (Or.inl ⟨rfl, rfl⟩)).2; clear hn31 hw3; obtain ⟨g3, g3', hE3, rfl⟩ := split_block hB3 hb31 hO31; clear hB3 hb31 hO31; (repeat (first | simp only [size_more_eq] at hE3 | simp only [World.size_alloc] at hE3)); subst hE3)
  go_wp2
  refine wp_loop_rounds 4 ?_
  iterate 3 (rw [rounds_succ]; go_wp2; go_region; go_wp2)
  rw [rounds_succ]
  go_wp2
  clear T1 T2 T3 U1 U2 U3 HC
  rw [rounds_succ]
  go_wp2_with fail
  (refine wp_region_calm_tail 6 (Ext _) (by kernel_rfl) (by kernel_rfl) (Ext.start _) ?_; simp only [List.take_succ_cons, List.take_zero, List.drop_succ_cons, List.drop_zero]; (repeat (refine wpQuiet_step (fun K hK => ?_); go_simp; (try go_bits); apply Exists.intro; refine ⟨fun w' hw' => ?_, hK _ ?_⟩; (focus (first | with_reducible exact rfl | (go_at_call 120; (with_reducible exact Ext.call hw' (HS.out _))) | (go_at_call 101; (with_reducible exact Ext.call hw' (HL.out _))) | (obtain ⟨gx, rfl⟩ := more_of_below (Ext.below hw'); go_simp; exact rfl))); clear hK K)); refine wpQuiet_nil ?_; intro w4 hw4; have hb4 := Ext.below hw4; clear hw4; obtain ⟨g4, rfl⟩ := more_of_below hb4; clear hb4)
  go_wp2
  refine bodyPost_ret (v := .tuple #[.agg #[.int .i64 ra, .int .i64 rb, .int .i64 rc, .int .i64 rd, .int .i64 re, .int .i64 rf, .int .i64 rg, .int .i64 rh, .int .i64 ri, .int .i64 rn], .int .i64 z]) (by simp [results, Try.results92, go_sem]) rfl ⟨rfl, ?_⟩
  (repeat (first | with_reducible assumption | with_reducible exact Below.refl _ _ | with_reducible refine Below.drewN ?_ _ | with_reducible refine Below.drew ?_ | with_reducible refine Below.alloc ?_ (by first | omega | (simp; done) | (simp; omega)) _ | with_reducible refine Below.setCell ?_ (by first | omega | (simp; done) | (simp; omega)) _ | with_reducible refine below_more _ _ ?_ (by first | omega | (simp; done) | (simp; omega))))

theorem matrix_any (a : Qt) (h0 : 1 ≤ a.nrm) (h : a.nrm ≤ 4000000000000) (w : World) :
    Calls Try.prog 92 #[.agg #[.int .i64 a.w, .int .i64 a.x, .int .i64 a.y, .int .i64 a.z]] w fun e w' => (1000000 < a.rot.low.n → e = .returned (.tuple #[.agg #[.int .i64 0, .int .i64 0, .int .i64 0, .int .i64 0, .int .i64 0, .int .i64 0, .int .i64 0, .int .i64 0, .int .i64 0, .int .i64 0], .int .i64 8])) ∧ (a.rot.low.n ≤ 1000000 → e = .returned (.tuple #[.agg #[.int .i64 a.rot.low.a, .int .i64 a.rot.low.b, .int .i64 a.rot.low.c, .int .i64 a.rot.low.d, .int .i64 a.rot.low.e, .int .i64 a.rot.low.f, .int .i64 a.rot.low.g, .int .i64 a.rot.low.h, .int .i64 a.rot.low.i, .int .i64 a.rot.low.n], .int .i64 0])) ∧ Below w.heap.size w w' := by
  have bd : ∀ q : Qt, q.nrm ≤ 16000000000000000000000000000000000000 → q.InR := fun q hq => Qt.inR_of_nrm hq
  have hm1 : ∀ v : Qt, v.nrm = 1 → (a.mul v).InR := fun v hv => bd _ (by rw [Qt.nrm_mul, hv]; omega)
  have hm2 : ∀ v : Qt, v.nrm = 1 → (a.im v).InR := fun v hv => by
    obtain ⟨b0, b1, b2, b3⟩ := Qt.im_bd h hv
    exact ⟨by omega, by omega, by omega, by omega⟩
  have t1 := fun w => times_in a Qt.e1 w (hm1 _ Qt.nrm_e1)
  have t2 := fun w => times_in a Qt.e2 w (hm1 _ Qt.nrm_e2)
  have t3 := fun w => times_in a Qt.e3 w (hm1 _ Qt.nrm_e3)
  have u1 := fun w => times_in (a.mul Qt.e1) a.conj w (hm2 _ Qt.nrm_e1)
  have u2 := fun w => times_in (a.mul Qt.e2) a.conj w (hm2 _ Qt.nrm_e2)
  have u3 := fun w => times_in (a.mul Qt.e3) a.conj w (hm2 _ Qt.nrm_e3)
  have hc := fun w => conj_in a w (bd _ (by omega))
  have hs := sum_any a
  rw [wr_in _ (by omega)] at hs
  have hl := lowest_any a.rot (Qt.rot_In h0 h)
  by_cases hb : 1000000 < a.rot.low.n
  · have hl' := fun w => (hl w).mono fun (e : Ending) w' ⟨h1, _, h3⟩ => (⟨h1 hb, h3⟩ : e = Ending.returned (.tuple #[.agg #[.int .i64 0, .int .i64 0, .int .i64 0, .int .i64 0, .int .i64 0, .int .i64 0, .int .i64 0, .int .i64 0, .int .i64 0, .int .i64 0], .int .i64 8]) ∧ Below w.heap.size w w')
    refine (matrix_walk a _ _ _ _ _ _ _ _ _ _ _ rfl 0 0 0 0 0 0 0 0 0 0 rfl t1 t2 t3 u1 u2 u3 hc hs hl' w).mono ?_
    rintro e w' ⟨he, hw⟩
    exact ⟨fun _ => he, fun h => by omega, hw⟩
  · have hl' := fun w => (hl w).mono fun (e : Ending) w' ⟨_, h1, h3⟩ => (⟨h1 (by omega), h3⟩ : e = Ending.returned (.tuple #[.agg #[.int .i64 a.rot.low.a, .int .i64 a.rot.low.b, .int .i64 a.rot.low.c, .int .i64 a.rot.low.d, .int .i64 a.rot.low.e, .int .i64 a.rot.low.f, .int .i64 a.rot.low.g, .int .i64 a.rot.low.h, .int .i64 a.rot.low.i, .int .i64 a.rot.low.n], .int .i64 0]) ∧ Below w.heap.size w w')
    refine (matrix_walk a _ _ _ _ _ _ _ _ _ _ _ rfl _ _ _ _ _ _ _ _ _ _ rfl t1 t2 t3 u1 u2 u3 hc hs hl' w).mono ?_
    rintro e w' ⟨he, hw⟩
    exact ⟨fun h => absurd h hb, fun _ => he, hw⟩
end Go.Proofs.Ythajaabgcbjfkaa
