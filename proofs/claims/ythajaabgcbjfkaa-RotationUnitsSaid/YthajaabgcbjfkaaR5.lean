/- Contract of the reference: Divide. -/
import Derived.Test.YthajaabgcbjfkaaR4
import Derived.Test.YthajaabgcbjfkaaP3
namespace Go.Proofs.Ythajaabgcbjfkaa
open Go.RowKit

set_option maxRecDepth 10000 in
set_option maxHeartbeats 2000000 in
theorem rdivide_in (x y T qa qb ra rb : Qt) (N : Int) (hN1 : 1 ≤ N) (hN2 : N ≤ 1000000000000) (hT : Qt.Bd 4000000000000 T) (w : World)
    (ea : Qt.qaR T N = qa) (eb : Qt.qbR T N = qb) (ba : Qt.Bd 40000000000000 qa) (bb : Qt.Bd 40000000000000 qb)
    (cc : ∀ w, Calls Try.prog 70 #[.agg #[.int .i64 y.w, .int .i64 y.x, .int .i64 y.y, .int .i64 y.z]] w fun e w' => e = .returned (.agg #[.int .i64 y.conj.w, .int .i64 y.conj.x, .int .i64 y.conj.y, .int .i64 y.conj.z]) ∧ Below w.heap.size w w')
    (ct : ∀ w, Calls Try.prog 23 #[.agg #[.int .i64 y.conj.w, .int .i64 y.conj.x, .int .i64 y.conj.y, .int .i64 y.conj.z], .agg #[.int .i64 x.w, .int .i64 x.x, .int .i64 x.y, .int .i64 x.z]] w fun e w' => e = .returned (.agg #[.int .i64 T.w, .int .i64 T.x, .int .i64 T.y, .int .i64 T.z]) ∧ Below w.heap.size w w')
    (cn : ∀ w, Calls Try.prog 21 #[.agg #[.int .i64 y.w, .int .i64 y.x, .int .i64 y.y, .int .i64 y.z]] w fun e w' => e = .returned (.int .i64 N) ∧ Below w.heap.size w w')
    (ca : ∀ w, Calls Try.prog 23 #[.agg #[.int .i64 y.w, .int .i64 y.x, .int .i64 y.y, .int .i64 y.z], .agg #[.int .i64 qa.w, .int .i64 qa.x, .int .i64 qa.y, .int .i64 qa.z]] w fun e w' => e = .returned (.agg #[.int .i64 (Qt.hm y qa).w, .int .i64 (Qt.hm y qa).x, .int .i64 (Qt.hm y qa).y, .int .i64 (Qt.hm y qa).z]) ∧ Below w.heap.size w w')
    (cb : ∀ w, Calls Try.prog 23 #[.agg #[.int .i64 y.w, .int .i64 y.x, .int .i64 y.y, .int .i64 y.z], .agg #[.int .i64 qb.w, .int .i64 qb.x, .int .i64 qb.y, .int .i64 qb.z]] w fun e w' => e = .returned (.agg #[.int .i64 (Qt.hm y qb).w, .int .i64 (Qt.hm y qb).x, .int .i64 (Qt.hm y qb).y, .int .i64 (Qt.hm y qb).z]) ∧ Below w.heap.size w w')
    (ma : ∀ w, Calls Try.prog 22 #[.agg #[.int .i64 x.w, .int .i64 x.x, .int .i64 x.y, .int .i64 x.z], .agg #[.int .i64 (Qt.hm y qa).w, .int .i64 (Qt.hm y qa).x, .int .i64 (Qt.hm y qa).y, .int .i64 (Qt.hm y qa).z]] w fun e w' => e = .returned (.agg #[.int .i64 ra.w, .int .i64 ra.x, .int .i64 ra.y, .int .i64 ra.z]) ∧ Below w.heap.size w w')
    (mb : ∀ w, Calls Try.prog 22 #[.agg #[.int .i64 x.w, .int .i64 x.x, .int .i64 x.y, .int .i64 x.z], .agg #[.int .i64 (Qt.hm y qb).w, .int .i64 (Qt.hm y qb).x, .int .i64 (Qt.hm y qb).y, .int .i64 (Qt.hm y qb).z]] w fun e w' => e = .returned (.agg #[.int .i64 rb.w, .int .i64 rb.x, .int .i64 rb.y, .int .i64 rb.z]) ∧ Below w.heap.size w w')
    (na : ∀ w, Calls Try.prog 21 #[.agg #[.int .i64 ra.w, .int .i64 ra.x, .int .i64 ra.y, .int .i64 ra.z]] w fun e w' => e = .returned (.int .i64 (ra.nrm / 4)) ∧ Below w.heap.size w w')
    (nb : ∀ w, Calls Try.prog 21 #[.agg #[.int .i64 rb.w, .int .i64 rb.x, .int .i64 rb.y, .int .i64 rb.z]] w fun e w' => e = .returned (.int .i64 (rb.nrm / 4)) ∧ Below w.heap.size w w') :
    Calls Try.prog 19 #[.agg #[.int .i64 x.w, .int .i64 x.x, .int .i64 x.y, .int .i64 x.z], .agg #[.int .i64 y.w, .int .i64 y.x, .int .i64 y.y, .int .i64 y.z]] w fun e w' => e = .returned (.tuple #[.agg #[.int .i64 ((if rb.nrm / 4 < ra.nrm / 4 then qb else qa)).w, .int .i64 ((if rb.nrm / 4 < ra.nrm / 4 then qb else qa)).x, .int .i64 ((if rb.nrm / 4 < ra.nrm / 4 then qb else qa)).y, .int .i64 ((if rb.nrm / 4 < ra.nrm / 4 then qb else qa)).z], .agg #[.int .i64 ((if rb.nrm / 4 < ra.nrm / 4 then rb else ra)).w, .int .i64 ((if rb.nrm / 4 < ra.nrm / 4 then rb else ra)).x, .int .i64 ((if rb.nrm / 4 < ra.nrm / 4 then rb else ra)).y, .int .i64 ((if rb.nrm / 4 < ra.nrm / 4 then rb else ra)).z]]) ∧ Below w.heap.size w w' := by
  generalize hqo : (if rb.nrm / 4 < ra.nrm / 4 then qb else qa) = qo
  generalize hro : (if rb.nrm / 4 < ra.nrm / 4 then rb else ra) = ro
  have HQ := Lib.hid hqo
  have HR := Lib.hid hro
  clear hqo hro
  have CC := Lib.hid cc; have CT := Lib.hid ct; have CN := Lib.hid cn; have CA := Lib.hid ca; have CB := Lib.hid cb
  have MA := Lib.hid ma; have MB := Lib.hid mb; have NA := Lib.hid na; have NB := Lib.hid nb
  clear cc ct cn ca cb ma mb na nb
  generalize Qt.hm y qa = ta at *
  generalize Qt.hm y qb = tb at *
  obtain ⟨⟨qa1, qa2⟩, ⟨qa3, qa4⟩, ⟨qa5, qa6⟩, ⟨qa7, qa8⟩⟩ := ba
  obtain ⟨⟨qb1, qb2⟩, ⟨qb3, qb4⟩, ⟨qb5, qb6⟩, ⟨qb7, qb8⟩⟩ := bb
  obtain ⟨⟨t1, t2⟩, ⟨t3, t4⟩, ⟨t5, t6⟩, ⟨t7, t8⟩⟩ := hT
  have eaw : 2 * ((T.w + N) / (2 * N)) = qa.w := congrArg Qt.w ea
  have eax : 2 * ((T.x + N) / (2 * N)) = qa.x := congrArg Qt.x ea
  have eay : 2 * ((T.y + N) / (2 * N)) = qa.y := congrArg Qt.y ea
  have eaz : 2 * ((T.z + N) / (2 * N)) = qa.z := congrArg Qt.z ea
  have ebw : 2 * (T.w / (2 * N)) + 1 = qb.w := congrArg Qt.w eb
  have ebx : 2 * (T.x / (2 * N)) + 1 = qb.x := congrArg Qt.x eb
  have eby : 2 * (T.y / (2 * N)) + 1 = qb.y := congrArg Qt.y eb
  have ebz : 2 * (T.z / (2 * N)) + 1 = qb.z := congrArg Qt.z eb
  clear ea eb
  go_enter Try.func19, Try.ntmps19
  go_wp2_with fail
  (apply wp_region_own 5 [.inl _, .inl _, .inl _, .inl _, .inr (.cells #[.int .i64 0, .int .i64 0, .int .i64 0, .int .i64 0] 32)] (by kernel_rfl) (by kernel_rfl); simp only [List.take_succ_cons, List.take_zero, List.drop_succ_cons, List.drop_zero]; (refine lexM_val rfl (fun K hK => ?_); go_simp; (try go_bits); refine ⟨fun w' hw' => ?_, hK _ ?_⟩; (focus (first | with_reducible exact rfl | (go_at_call 70; (with_reducible exact CC.out _)) | (go_at_call 23; (with_reducible exact CT.out _)) | (obtain ⟨gx, rfl⟩ := more_of_below (Ext.below hw'); go_simp; exact rfl))); clear hK K); (refine lexM_val rfl (fun K hK => ?_); go_simp; (try go_bits); refine ⟨fun w' hw' => ?_, hK _ ?_⟩; (focus (first | with_reducible exact rfl | (go_at_call 70; (with_reducible exact CC.out _)) | (go_at_call 23; (with_reducible exact CT.out _)) | (obtain ⟨gx, rfl⟩ := more_of_below (Ext.below hw'); go_simp; exact rfl))); clear hK K); (refine lexM_val rfl (fun K hK => ?_); go_simp; (try go_bits); refine ⟨fun w' hw' => ?_, hK _ ?_⟩; (focus (first | with_reducible exact rfl | (go_at_call 70; (with_reducible exact CC.out _)) | (go_at_call 23; (with_reducible exact CT.out _)) | (obtain ⟨gx, rfl⟩ := more_of_below (Ext.below hw'); go_simp; exact rfl))); clear hK K); (refine lexM_val rfl (fun K hK => ?_); go_simp; (try go_bits); refine ⟨fun w' hw' => ?_, hK _ ?_⟩; (focus (first | with_reducible exact rfl | (go_at_call 70; (with_reducible exact CC.out _)) | (go_at_call 23; (with_reducible exact CT.out _)) | (obtain ⟨gx, rfl⟩ := more_of_below (Ext.below hw'); go_simp; exact rfl))); clear hK K); (refine lexM_mem rfl rfl (fun w => by first | rfl | (go_simp; rfl)) (fun b11 hb11 hn11 => ?_); simp only [Act.put, List.setIfInBounds_toArray, List.set_cons_succ, List.set_cons_zero]); intro w1 hw1; have hB1 := hw1.1; have hO11 := (hw1.2 b11 _ (Or.inl ⟨rfl, rfl⟩)).2; clear hn11 hw1; obtain ⟨g1, g1', hE1, rfl⟩ := split_block hB1 hb11 hO11; clear hB1 hb11 hO11; (repeat (first | simp only [size_more_eq] at hE1 | simp only [World.size_alloc] at hE1)); subst hE1)
  go_wp2_with (first | (go_at_call 21; with_reducible refine (CN.out _).mono ?_; rintro e w2 ⟨rfl, hb2⟩; obtain ⟨g2, rfl⟩ := more_of_below hb2; clear hb2))
  refine wp_loop_rounds 5 ?_
  repeat any_goals (rw [rounds_succ]; go_wp2_with (first | (go_at_call 71; with_reducible refine (rfloor_in _ _ (by omega) (by omega) (by omega) (by omega) _).mono ?_; rintro e w' ⟨rfl, rfl⟩)))
  (apply wp_region_own 12 [.inl _, .inl _, .inl _, .inl _, .inl _, .inl _, .inl _, .inl _, .inl _, .inl _, .inr (.cells #[.int .i64 0, .int .i64 0, .int .i64 0, .int .i64 0] 32), .inr (.cells #[.int .i64 0, .int .i64 0, .int .i64 0, .int .i64 0] 32)] (by kernel_rfl) (by kernel_rfl); simp only [List.take_succ_cons, List.take_zero, List.drop_succ_cons, List.drop_zero]; (refine lexM_val rfl (fun K hK => ?_); go_simp; (try go_bits); refine ⟨fun w' hw' => ?_, hK _ ?_⟩; (focus (first | with_reducible exact rfl | (go_at_call 23; (first | with_reducible exact CA.out _ | with_reducible exact CB.out _)) | (go_at_call 22; (first | with_reducible exact MA.out _ | with_reducible exact MB.out _)) | (obtain ⟨gx, rfl⟩ := more_of_below (Ext.below hw'); go_simp; exact rfl))); clear hK K); (refine lexM_val rfl (fun K hK => ?_); go_simp; (try go_bits); refine ⟨fun w' hw' => ?_, hK _ ?_⟩; (focus (first | with_reducible exact rfl | (go_at_call 23; (first | with_reducible exact CA.out _ | with_reducible exact CB.out _)) | (go_at_call 22; (first | with_reducible exact MA.out _ | with_reducible exact MB.out _)) | (obtain ⟨gx, rfl⟩ := more_of_below (Ext.below hw'); go_simp; exact rfl))); clear hK K); (refine lexM_val rfl (fun K hK => ?_); go_simp; (try go_bits); refine ⟨fun w' hw' => ?_, hK _ ?_⟩; (focus (first | with_reducible exact rfl | (go_at_call 23; (first | with_reducible exact CA.out _ | with_reducible exact CB.out _)) | (go_at_call 22; (first | with_reducible exact MA.out _ | with_reducible exact MB.out _)) | (obtain ⟨gx, rfl⟩ := more_of_below (Ext.below hw'); go_simp; exact rfl))); clear hK K); (refine lexM_val rfl (fun K hK => ?_); go_simp; (try go_bits); refine ⟨fun w' hw' => ?_, hK _ ?_⟩; (focus (first | with_reducible exact rfl | (go_at_call 23; (first | with_reducible exact CA.out _ | with_reducible exact CB.out _)) | (go_at_call 22; (first | with_reducible exact MA.out _ | with_reducible exact MB.out _)) | (obtain ⟨gx, rfl⟩ := more_of_below (Ext.below hw'); go_simp; exact rfl))); clear hK K); (refine lexM_val rfl (fun K hK => ?_); go_simp; (try go_bits); refine ⟨fun w' hw' => ?_, hK _ ?_⟩; (focus (first | with_reducible exact rfl | (go_at_call 23; (first | with_reducible exact CA.out _ | with_reducible exact CB.out _)) | (go_at_call 22; (first | with_reducible exact MA.out _ | with_reducible exact MB.out _)) | (obtain ⟨gx, rfl⟩ := more_of_below (Ext.below hw'); go_simp; exact rfl))); clear hK K); (refine lexM_val rfl (fun K hK => ?_); go_simp; (try go_bits); refine ⟨fun w' hw' => ?_, hK _ ?_⟩; (focus (first | with_reducible exact rfl | (go_at_call 23; (first | with_reducible exact CA.out _ | with_reducible exact CB.out _)) | (go_at_call 22; (first | with_reducible exact MA.out _ | with_reducible exact MB.out _)) | (obtain ⟨gx, rfl⟩ := more_of_below (Ext.below hw'); go_simp; exact rfl))); clear hK K); (refine lexM_val rfl (fun K hK => ?_); go_simp; (try go_bits); refine ⟨fun w' hw' => ?_, hK _ ?_⟩; (focus (first | with_reducible exact rfl | (go_at_call 23; (first | with_reducible exact CA.out _ | with_reducible exact CB.out _)) | (go_at_call 22; (first | with_reducible exact MA.out _ | with_reducible exact MB.out _)) | (obtain ⟨gx, rfl⟩ := more_of_below (Ext.below hw'); go_simp; exact rfl))); clear hK K); (refine lexM_val rfl (fun K hK => ?_); go_simp; (try go_bits); refine ⟨fun w' hw' => ?_, hK _ ?_⟩; (focus (first | with_reducible exact rfl | (go_at_call 23; (first | with_reducible exact CA.out _ | with_reducible exact CB.out _)) | (go_at_call 22; (first | with_reducible exact MA.out _ | with_reducible exact MB.out _)) | (obtain ⟨gx, rfl⟩ := more_of_below (Ext.below hw'); go_simp; exact rfl))); clear hK K); (refine lexM_val rfl (fun K hK => ?_); go_simp; (try go_bits); refine ⟨fun w' hw' => ?_, hK _ ?_⟩; (focus (first | with_reducible exact rfl | (go_at_call 23; (first | with_reducible exact CA.out _ | with_reducible exact CB.out _)) | (go_at_call 22; (first | with_reducible exact MA.out _ | with_reducible exact MB.out _)) | (obtain ⟨gx, rfl⟩ := more_of_below (Ext.below hw'); go_simp; exact rfl))); clear hK K); (refine lexM_val rfl (fun K hK => ?_); go_simp; (try go_bits); refine ⟨fun w' hw' => ?_, hK _ ?_⟩; (focus (first | with_reducible exact rfl | (go_at_call 23; (first | with_reducible exact CA.out _ | with_reducible exact CB.out _)) | (go_at_call 22; (first | with_reducible exact MA.out _ | with_reducible exact MB.out _)) | (obtain ⟨gx, rfl⟩ := more_of_below (Ext.below hw'); go_simp; exact rfl))); clear hK K); (refine lexM_mem rfl rfl (fun w => by first | rfl | (go_simp; rfl)) (fun b31 hb31 hn31 => ?_); simp only [Act.put, List.setIfInBounds_toArray, List.set_cons_succ, List.set_cons_zero]); (refine lexM_mem rfl rfl (fun w => by first | rfl | (go_simp; rfl)) (fun b32 hb32 hn32 => ?_); simp only [Act.put, List.setIfInBounds_toArray, List.set_cons_succ, List.set_cons_zero]); intro w3 hw3; have hB3 := hw3.1; have hO31 := (hw3.2 b31 _ (Or.inr (Or.inl ⟨rfl, rfl⟩))).2; have hO32 := (hw3.2 b32 _ (Or.inl ⟨rfl, rfl⟩)).2; have hd3 : b31 ≠ b32 := hn32 b31 _ (Or.inl ⟨rfl, rfl⟩); clear hn31 hn32 hw3; refine Or.elim (Nat.lt_or_gt_of_ne hd3) (fun hlt3 => ?_) (fun hlt3 => ?_); (focus (obtain ⟨g3, g3', g3'', hE3, hF3, rfl⟩ := split_two hB3 hb31 hO31 hO32 hlt3; clear hB3 hb31 hb32 hO31 hO32 hlt3 hd3; (repeat (first | simp only [size_more_eq] at hE3 | simp only [World.size_alloc] at hE3)); (repeat (first | simp only [size_more_eq] at hF3 | simp only [World.size_alloc] at hF3)); subst hE3; subst hF3)); rotate_left; (focus (obtain ⟨g3, g3', g3'', hE3, hF3, rfl⟩ := split_two hB3 hb32 hO32 hO31 hlt3; clear hB3 hb31 hb32 hO31 hO32 hlt3 hd3; (repeat (first | simp only [size_more_eq] at hE3 | simp only [World.size_alloc] at hE3)); (repeat (first | simp only [size_more_eq] at hF3 | simp only [World.size_alloc] at hF3)); subst hE3; subst hF3)))
  all_goals (clear CA CB MA MB CC CT CN)
  all_goals go_wp2_with fail
  all_goals ((refine wp_region_quiet (C := Ext _) (by kernel_rfl) (by kernel_rfl) (Ext.start _) ?_; simp only []; (repeat (refine wpQuiet_step (fun K hK => ?_); go_simp; (try go_bits); apply Exists.intro; refine ⟨fun w' hw' => ?_, hK _ ?_⟩; (focus (first | with_reducible exact rfl | (go_at_call 21; (first | with_reducible exact Ext.call hw' (NB.out _) | with_reducible exact Ext.call hw' (NA.out _))) | (obtain ⟨gx, rfl⟩ := more_of_below (Ext.below hw'); go_simp; exact rfl))); clear hK K)); refine wpQuiet_nil ?_; intro w4 hw4; have hb4 := Ext.below hw4; clear hw4; obtain ⟨g4, rfl⟩ := more_of_below hb4; clear hb4))
  all_goals go_wp2
  all_goals go_region
  all_goals go_wp2
  all_goals (first | (have hp : rb.nrm / 4 < ra.nrm / 4 := (by assumption); have h1 := HQ.out; have h2 := HR.out; rw [if_pos hp] at h1 h2; subst h1 h2; refine bodyPost_ret (v := .tuple #[.agg #[.int .i64 qb.w, .int .i64 qb.x, .int .i64 qb.y, .int .i64 qb.z], .agg #[.int .i64 rb.w, .int .i64 rb.x, .int .i64 rb.y, .int .i64 rb.z]]) (by simp [results, Try.results19, go_sem]; done) rfl ⟨rfl, ?_⟩) | (have hp : ¬ rb.nrm / 4 < ra.nrm / 4 := (by omega); have h1 := HQ.out; have h2 := HR.out; rw [if_neg hp] at h1 h2; subst h1 h2; refine bodyPost_ret (v := .tuple #[.agg #[.int .i64 qa.w, .int .i64 qa.x, .int .i64 qa.y, .int .i64 qa.z], .agg #[.int .i64 ra.w, .int .i64 ra.x, .int .i64 ra.y, .int .i64 ra.z]]) (by simp [results, Try.results19, go_sem]; done) rfl ⟨rfl, ?_⟩))
  all_goals ((repeat (first | with_reducible assumption | with_reducible exact Below.refl _ _ | with_reducible refine Below.drewN ?_ _ | with_reducible refine Below.drew ?_ | with_reducible refine Below.alloc ?_ (by first | omega | (simp; done) | (simp; omega)) _ | with_reducible refine Below.setCell ?_ (by first | omega | (simp; done) | (simp; omega)) _ | with_reducible refine below_more _ _ ?_ (by first | omega | (simp; done) | (simp; omega)))))

/-- Division of Hurwitz quaternions, by the reference. -/
theorem rdivide_hz (x y : Qt) (hx : Qt.Hz x) (hy : Qt.Hz y) (bx : x.nrm ≤ 4000000000000) (b : y.nrm ≤ 4000000000000) (h0 : 1 ≤ y.nrm) (w : World) :
    Calls Try.prog 19 #[.agg #[.int .i64 x.w, .int .i64 x.x, .int .i64 x.y, .int .i64 x.z], .agg #[.int .i64 y.w, .int .i64 y.x, .int .i64 y.y, .int .i64 y.z]] w fun e w' => e = .returned (.tuple #[.agg #[.int .i64 (x.quo y).w, .int .i64 (x.quo y).x, .int .i64 (x.quo y).y, .int .i64 (x.quo y).z], .agg #[.int .i64 (x.dr y).w, .int .i64 (x.dr y).x, .int .i64 (x.dr y).y, .int .i64 (x.dr y).z]]) ∧ Below w.heap.size w w' := by
  have hD : Qt.Dv x y := ⟨bx, b, h0, Qt.hz_nrm hy⟩
  have h4 := Qt.hz_nrm hy
  have ht : (y.conj.mul x).nrm ≤ 4000000000000 * 4000000000000 := by
    rw [Qt.nrm_mul, Qt.nrm_conj]
    exact Int.le_trans (Int.mul_le_mul_of_nonneg_left bx (by omega)) (Int.mul_le_mul_of_nonneg_right b (by omega))
  have hT : Qt.Bd 4000000000000 (y.conj.mul x) := Qt.bd_of_nrm (by omega) ht
  have hm := (Qt.hm_spec (Qt.hz_conj hy) hx).2
  have hT2 : Qt.Bd 4000000000000 (Qt.hm y.conj x) := by
    have e1 := congrArg Qt.w hm; have e2 := congrArg Qt.x hm; have e3 := congrArg Qt.y hm; have e4 := congrArg Qt.z hm
    simp only [Qt.dbl] at e1 e2 e3 e4
    obtain ⟨⟨_, _⟩, ⟨_, _⟩, ⟨_, _⟩, ⟨_, _⟩⟩ := hT
    refine ⟨?_, ?_, ?_, ?_⟩ <;> omega
  have hx1 := Qt.bd_of_nrm (a := x) (B := 2000000) (by omega) (by omega)
  have ra := Qt.rm_a (x := x) hy h0
  have rb := Qt.rm_b (x := x) hy h0
  have big : ∀ q, Qt.Hz q → (x.rm y q).nrm ≤ y.nrm → (y.mul q).InR := fun q hq hr => by
    have h1 := Qt.rm_dbl (x := x) hy hq
    have h2 := Qt.bd_of_nrm (a := x.rm y q) (B := 2000000) (by omega) (by omega)
    have e1 := congrArg Qt.w h1; have e2 := congrArg Qt.x h1; have e3 := congrArg Qt.y h1; have e4 := congrArg Qt.z h1
    simp only [Qt.dbl, Qt.sub] at e1 e2 e3 e4
    obtain ⟨⟨_, _⟩, ⟨_, _⟩, ⟨_, _⟩, ⟨_, _⟩⟩ := hx1
    obtain ⟨⟨_, _⟩, ⟨_, _⟩, ⟨_, _⟩, ⟨_, _⟩⟩ := h2
    unfold Qt.InR
    refine ⟨?_, ?_, ?_, ?_⟩ <;> omega
  have k := rdivide_in x y (Qt.hm y.conj x) (x.qa y) (x.qb y) (x.rm y (x.qa y)) (x.rm y (x.qb y)) (y.nrm / 4) (by omega) (by omega) hT2 w
    (Qt.qaR_eq hx hy h0).1 (Qt.qaR_eq hx hy h0).2 (Qt.qa_bd x y hD hT) (Qt.qb_bd x y hD hT)
    (fun w => rconj_in y w (Qt.inR_of_nrm (by omega))) (rtimes_in y.conj x (Qt.inR_of_nrm (by omega))) (rnorm_in y (by omega))
    (rtimes_in y _ (big _ (Qt.hz_qa x y) ra)) (rtimes_in y _ (big _ (Qt.hz_qb x y) rb))
    (rminus_in x _ (Qt.inR_of_nrm (a := x.rm y (x.qa y)) (by omega))) (rminus_in x _ (Qt.inR_of_nrm (a := x.rm y (x.qb y)) (by omega)))
    (rnorm_in _ (by omega)) (rnorm_in _ (by omega))
  have e1 : x.quo y = if (x.rm y (x.qb y)).nrm / 4 < (x.rm y (x.qa y)).nrm / 4 then x.qb y else x.qa y := by
    unfold Qt.quo Qt.pickb; simp only [decide_eq_true_eq]
  have e2 : x.dr y = if (x.rm y (x.qb y)).nrm / 4 < (x.rm y (x.qa y)).nrm / 4 then x.rm y (x.qb y) else x.rm y (x.qa y) := by
    unfold Qt.dr; rw [e1]; split <;> rfl
  rw [e1, e2]
  exact k
end Go.Proofs.Ythajaabgcbjfkaa
