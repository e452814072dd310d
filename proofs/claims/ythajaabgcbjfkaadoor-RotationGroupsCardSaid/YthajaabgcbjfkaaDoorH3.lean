/- Contract: division. Plain: the remainder of a division is lesser; the contract of division for Hurwitz quaternions. -/
import Derived.Test.YthajaabgcbjfkaaDoorA1
import Derived.Test.YthajaabgcbjfkaaDoorH1
namespace Go.Proofs.YthajaabgcbjfkaaDoor
open Go.RowKit

set_option maxRecDepth 10000 in
set_option maxHeartbeats 2000000 in
theorem divide_in (x y : Qt) (w : World) (h : Qt.Dv x y) (hT : (y.conj.mul x).InR) (hY : y.InR) (hA : (y.mul (x.qa y)).InR) (hB : (y.mul (x.qb y)).InR)
    (hRA : (x.rm y (x.qa y)).InR) (hRB : (x.rm y (x.qb y)).InR) (hNA : (x.rm y (x.qa y)).nrm ≤ 9000000000000000000) (hNB : (x.rm y (x.qb y)).nrm ≤ 9000000000000000000)
    (hT' : Qt.Bd 4000000000000 (y.conj.mul x)) :
    Calls Tryd.prog 36 #[.agg #[.int .i64 x.w, .int .i64 x.x, .int .i64 x.y, .int .i64 x.z], .agg #[.int .i64 y.w, .int .i64 y.x, .int .i64 y.y, .int .i64 y.z]] w fun e w' => e = .returned (.tuple #[.agg #[.int .i64 (x.quo y).w, .int .i64 (x.quo y).x, .int .i64 (x.quo y).y, .int .i64 (x.quo y).z], .agg #[.int .i64 (x.dr y).w, .int .i64 (x.dr y).x, .int .i64 (x.dr y).y, .int .i64 (x.dr y).z]]) ∧ Below w.heap.size w w' := by
  obtain ⟨⟨qa1, qa2⟩, ⟨qa3, qa4⟩, ⟨qa5, qa6⟩, ⟨qa7, qa8⟩⟩ := Qt.qa_bd x y h hT'
  obtain ⟨⟨qb1, qb2⟩, ⟨qb3, qb4⟩, ⟨qb5, qb6⟩, ⟨qb7, qb8⟩⟩ := Qt.qb_bd x y h hT'
  obtain ⟨hx, hy, h0, h4⟩ := h
  obtain ⟨⟨t1, t2⟩, ⟨t3, t4⟩, ⟨t5, t6⟩, ⟨t7, t8⟩⟩ := hT'
  have hn1 : 1 ≤ y.nrm / 4 := by omega
  have hn2 : y.nrm / 4 ≤ 1000000000000 := by omega
  have eaw : 2 * ((2 * (y.conj.mul x).w + 4 * (y.nrm / 4)) / (2 * (4 * (y.nrm / 4)))) = (x.qa y).w := rfl
  have ebw : 2 * ((y.conj.mul x).w / (4 * (y.nrm / 4))) + 1 = (x.qb y).w := rfl
  have eax : 2 * ((2 * (y.conj.mul x).x + 4 * (y.nrm / 4)) / (2 * (4 * (y.nrm / 4)))) = (x.qa y).x := rfl
  have ebx : 2 * ((y.conj.mul x).x / (4 * (y.nrm / 4))) + 1 = (x.qb y).x := rfl
  have eay : 2 * ((2 * (y.conj.mul x).y + 4 * (y.nrm / 4)) / (2 * (4 * (y.nrm / 4)))) = (x.qa y).y := rfl
  have eby : 2 * ((y.conj.mul x).y / (4 * (y.nrm / 4))) + 1 = (x.qb y).y := rfl
  have eaz : 2 * ((2 * (y.conj.mul x).z + 4 * (y.nrm / 4)) / (2 * (4 * (y.nrm / 4)))) = (x.qa y).z := rfl
  have ebz : 2 * ((y.conj.mul x).z / (4 * (y.nrm / 4))) + 1 = (x.qb y).z := rfl
  have i0 : ∀ (x y z t : Int) (w : World), (Instr.index 54 (.agg #[.int .i64 x, .int .i64 y, .int .i64 z, .int .i64 t]) (.int .i64 0)).run Tryd.prog w = .ok (.int .i64 x) w := fun _ _ _ _ _ => by kernel_rfl
  have i1 : ∀ (x y z t : Int) (w : World), (Instr.index 54 (.agg #[.int .i64 x, .int .i64 y, .int .i64 z, .int .i64 t]) (.int .i64 1)).run Tryd.prog w = .ok (.int .i64 y) w := fun _ _ _ _ _ => by kernel_rfl
  have i2 : ∀ (x y z t : Int) (w : World), (Instr.index 54 (.agg #[.int .i64 x, .int .i64 y, .int .i64 z, .int .i64 t]) (.int .i64 2)).run Tryd.prog w = .ok (.int .i64 z) w := fun _ _ _ _ _ => by kernel_rfl
  have i3 : ∀ (x y z t : Int) (w : World), (Instr.index 54 (.agg #[.int .i64 x, .int .i64 y, .int .i64 z, .int .i64 t]) (.int .i64 3)).run Tryd.prog w = .ok (.int .i64 t) w := fun _ _ _ _ _ => by kernel_rfl
  unfold Qt.rm at hRA hRB hNA hNB
  go_enter Tryd.func36, Tryd.ntmps36
  go_wp2_with fail
  (apply wp_region_own 7 [.inl _, .inl _, .inl _, .inl _, .inl _, .inl _, .inr (.cells #[.int .i64 0, .int .i64 0, .int .i64 0, .int .i64 0] 54)] (by kernel_rfl) (by kernel_rfl); simp only [List.take_succ_cons, List.take_zero, List.drop_succ_cons, List.drop_zero]; (refine lexM_val rfl (fun K hK => ?_); go_simp; (try go_bits); refine ⟨fun w' hw' => ?_, hK _ ?_⟩; (focus (first | with_reducible exact rfl | (go_at_call 40; with_reducible exact (conj_in _ _ hY)) | (go_at_call 18; with_reducible exact (times_in _ _ _ hT)) | (obtain ⟨gx, rfl⟩ := more_of_below (Ext.below hw'); go_simp; exact rfl))); clear hK K); (refine lexM_val rfl (fun K hK => ?_); go_simp; (try go_bits); refine ⟨fun w' hw' => ?_, hK _ ?_⟩; (focus (first | with_reducible exact rfl | (go_at_call 40; with_reducible exact (conj_in _ _ hY)) | (go_at_call 18; with_reducible exact (times_in _ _ _ hT)) | (obtain ⟨gx, rfl⟩ := more_of_below (Ext.below hw'); go_simp; exact rfl))); clear hK K); (refine lexM_val rfl (fun K hK => ?_); go_simp; (try go_bits); refine ⟨fun w' hw' => ?_, hK _ ?_⟩; (focus (first | with_reducible exact rfl | (go_at_call 40; with_reducible exact (conj_in _ _ hY)) | (go_at_call 18; with_reducible exact (times_in _ _ _ hT)) | (obtain ⟨gx, rfl⟩ := more_of_below (Ext.below hw'); go_simp; exact rfl))); clear hK K); (refine lexM_val rfl (fun K hK => ?_); go_simp; (try go_bits); refine ⟨fun w' hw' => ?_, hK _ ?_⟩; (focus (first | with_reducible exact rfl | (go_at_call 40; with_reducible exact (conj_in _ _ hY)) | (go_at_call 18; with_reducible exact (times_in _ _ _ hT)) | (obtain ⟨gx, rfl⟩ := more_of_below (Ext.below hw'); go_simp; exact rfl))); clear hK K); (refine lexM_val rfl (fun K hK => ?_); go_simp; (try go_bits); refine ⟨fun w' hw' => ?_, hK _ ?_⟩; (focus (first | with_reducible exact rfl | (go_at_call 40; with_reducible exact (conj_in _ _ hY)) | (go_at_call 18; with_reducible exact (times_in _ _ _ hT)) | (obtain ⟨gx, rfl⟩ := more_of_below (Ext.below hw'); go_simp; exact rfl))); clear hK K); (refine lexM_val rfl (fun K hK => ?_); go_simp; (try go_bits); refine ⟨fun w' hw' => ?_, hK _ ?_⟩; (focus (first | with_reducible exact rfl | (go_at_call 40; with_reducible exact (conj_in _ _ hY)) | (go_at_call 18; with_reducible exact (times_in _ _ _ hT)) | (obtain ⟨gx, rfl⟩ := more_of_below (Ext.below hw'); go_simp; exact rfl))); clear hK K); (refine lexM_mem rfl rfl (fun w => by first | rfl | (go_simp; rfl)) (fun b11 hb11 hn11 => ?_); simp only [Act.put, List.setIfInBounds_toArray, List.set_cons_succ, List.set_cons_zero]); intro w1 hw1; have hB1 := hw1.1; have hO11 := (hw1.2 b11 _ (Or.inl ⟨rfl, rfl⟩)).2; clear hn11 hw1; obtain ⟨g1, g1', hE1, rfl⟩ := split_block hB1 hb11 hO11; clear hB1 hb11 hO11; (repeat (first | simp only [size_more_eq] at hE1 | simp only [World.size_alloc] at hE1)); subst hE1)
  go_wp2_with (first | (go_at_call 58; with_reducible refine (hnorm_any _ (by omega) _).mono ?_; rintro e w2 ⟨rfl, hb2⟩; obtain ⟨g2, rfl⟩ := more_of_below hb2; clear hb2))
  refine wp_loop_rounds 5 ?_
  repeat any_goals (rw [rounds_succ]; go_wp2_with (first | (go_at_call 59; with_reducible refine (floor_in _ _ (by omega) (by omega) (by omega) _).mono ?_; rintro e w' ⟨rfl, rfl⟩)))
  (apply wp_region_own 12 [.inl _, .inl _, .inl _, .inl _, .inl _, .inl _, .inl _, .inl _, .inl _, .inl _, .inr (.cells #[.int .i64 0, .int .i64 0, .int .i64 0, .int .i64 0] 80), .inr (.cells #[.int .i64 0, .int .i64 0, .int .i64 0, .int .i64 0] 80)] (by kernel_rfl) (by kernel_rfl); simp only [List.take_succ_cons, List.take_zero, List.drop_succ_cons, List.drop_zero]; (refine lexM_val rfl (fun K hK => ?_); go_simp; (try go_bits); refine ⟨fun w' hw' => ?_, hK _ ?_⟩; (focus (first | with_reducible exact rfl | (go_at_call 61; (first | with_reducible exact htimes_in _ _ hA _ | with_reducible exact htimes_in _ _ hB _)) | (go_at_call 60; (first | with_reducible exact minus_in _ _ hRA _ | with_reducible exact minus_in _ _ hRB _)) | (obtain ⟨gx, rfl⟩ := more_of_below (Ext.below hw'); go_simp; exact rfl))); clear hK K); (refine lexM_val rfl (fun K hK => ?_); go_simp; (try go_bits); refine ⟨fun w' hw' => ?_, hK _ ?_⟩; (focus (first | with_reducible exact rfl | (go_at_call 61; (first | with_reducible exact htimes_in _ _ hA _ | with_reducible exact htimes_in _ _ hB _)) | (go_at_call 60; (first | with_reducible exact minus_in _ _ hRA _ | with_reducible exact minus_in _ _ hRB _)) | (obtain ⟨gx, rfl⟩ := more_of_below (Ext.below hw'); go_simp; exact rfl))); clear hK K); (refine lexM_val rfl (fun K hK => ?_); go_simp; (try go_bits); refine ⟨fun w' hw' => ?_, hK _ ?_⟩; (focus (first | with_reducible exact rfl | (go_at_call 61; (first | with_reducible exact htimes_in _ _ hA _ | with_reducible exact htimes_in _ _ hB _)) | (go_at_call 60; (first | with_reducible exact minus_in _ _ hRA _ | with_reducible exact minus_in _ _ hRB _)) | (obtain ⟨gx, rfl⟩ := more_of_below (Ext.below hw'); go_simp; exact rfl))); clear hK K); (refine lexM_val rfl (fun K hK => ?_); go_simp; (try go_bits); refine ⟨fun w' hw' => ?_, hK _ ?_⟩; (focus (first | with_reducible exact rfl | (go_at_call 61; (first | with_reducible exact htimes_in _ _ hA _ | with_reducible exact htimes_in _ _ hB _)) | (go_at_call 60; (first | with_reducible exact minus_in _ _ hRA _ | with_reducible exact minus_in _ _ hRB _)) | (obtain ⟨gx, rfl⟩ := more_of_below (Ext.below hw'); go_simp; exact rfl))); clear hK K); (refine lexM_val rfl (fun K hK => ?_); go_simp; (try go_bits); refine ⟨fun w' hw' => ?_, hK _ ?_⟩; (focus (first | with_reducible exact rfl | (go_at_call 61; (first | with_reducible exact htimes_in _ _ hA _ | with_reducible exact htimes_in _ _ hB _)) | (go_at_call 60; (first | with_reducible exact minus_in _ _ hRA _ | with_reducible exact minus_in _ _ hRB _)) | (obtain ⟨gx, rfl⟩ := more_of_below (Ext.below hw'); go_simp; exact rfl))); clear hK K); (refine lexM_val rfl (fun K hK => ?_); go_simp; (try go_bits); refine ⟨fun w' hw' => ?_, hK _ ?_⟩; (focus (first | with_reducible exact rfl | (go_at_call 61; (first | with_reducible exact htimes_in _ _ hA _ | with_reducible exact htimes_in _ _ hB _)) | (go_at_call 60; (first | with_reducible exact minus_in _ _ hRA _ | with_reducible exact minus_in _ _ hRB _)) | (obtain ⟨gx, rfl⟩ := more_of_below (Ext.below hw'); go_simp; exact rfl))); clear hK K); (refine lexM_val rfl (fun K hK => ?_); go_simp; (try go_bits); refine ⟨fun w' hw' => ?_, hK _ ?_⟩; (focus (first | with_reducible exact rfl | (go_at_call 61; (first | with_reducible exact htimes_in _ _ hA _ | with_reducible exact htimes_in _ _ hB _)) | (go_at_call 60; (first | with_reducible exact minus_in _ _ hRA _ | with_reducible exact minus_in _ _ hRB _)) | (obtain ⟨gx, rfl⟩ := more_of_below (Ext.below hw'); go_simp; exact rfl))); clear hK K); (refine lexM_val rfl (fun K hK => ?_); go_simp; (try go_bits); refine ⟨fun w' hw' => ?_, hK _ ?_⟩; (focus (first | with_reducible exact rfl | (go_at_call 61; (first | with_reducible exact htimes_in _ _ hA _ | with_reducible exact htimes_in _ _ hB _)) | (go_at_call 60; (first | with_reducible exact minus_in _ _ hRA _ | with_reducible exact minus_in _ _ hRB _)) | (obtain ⟨gx, rfl⟩ := more_of_below (Ext.below hw'); go_simp; exact rfl))); clear hK K); (refine lexM_val rfl (fun K hK => ?_); go_simp; (try go_bits); refine ⟨fun w' hw' => ?_, hK _ ?_⟩; (focus (first | with_reducible exact rfl | (go_at_call 61; (first | with_reducible exact htimes_in _ _ hA _ | with_reducible exact htimes_in _ _ hB _)) | (go_at_call 60; (first | with_reducible exact minus_in _ _ hRA _ | with_reducible exact minus_in _ _ hRB _)) | (obtain ⟨gx, rfl⟩ := more_of_below (Ext.below hw'); go_simp; exact rfl))); clear hK K); (refine lexM_val rfl (fun K hK => ?_); go_simp; (try go_bits); refine ⟨fun w' hw' => ?_, hK _ ?_⟩; (focus (first | with_reducible exact rfl | (go_at_call 61; (first | with_reducible exact htimes_in _ _ hA _ | with_reducible exact htimes_in _ _ hB _)) | (go_at_call 60; (first | with_reducible exact minus_in _ _ hRA _ | with_reducible exact minus_in _ _ hRB _)) | (obtain ⟨gx, rfl⟩ := more_of_below (Ext.below hw'); go_simp; exact rfl))); clear hK K); (refine lexM_mem rfl rfl (fun w => by first | rfl | (go_simp; rfl)) (fun b31 hb31 hn31 => ?_); simp only [Act.put, List.setIfInBounds_toArray, List.set_cons_succ, List.set_cons_zero]); (refine lexM_mem rfl rfl (fun w => by first | rfl | (go_simp; rfl)) (fun b32 hb32 hn32 => ?_); simp only [Act.put, List.setIfInBounds_toArray, List.set_cons_succ, List.set_cons_zero]); intro w3 hw3; have hB3 := hw3.1; have hO31 := (hw3.2 b31 _ (Or.inr (Or.inl ⟨rfl, rfl⟩))).2; have hO32 := (hw3.2 b32 _ (Or.inl ⟨rfl, rfl⟩)).2; have hd3 : b31 ≠ b32 := hn32 b31 _ (Or.inl ⟨rfl, rfl⟩); clear hn31 hn32 hw3; refine Or.elim (Nat.lt_or_gt_of_ne hd3) (fun hlt3 => ?_) (fun hlt3 => ?_); (focus (obtain ⟨g3, g3', g3'', hE3, hF3, rfl⟩ := split_two hB3 hb31 hO31 hO32 hlt3; clear hB3 hb31 hb32 hO31 hO32 hlt3 hd3; (repeat (first | simp only [size_more_eq] at hE3 | simp only [World.size_alloc] at hE3)); (repeat (first | simp only [size_more_eq] at hF3 | simp only [World.size_alloc] at hF3)); subst hE3; subst hF3)); rotate_left; (focus (obtain ⟨g3, g3', g3'', hE3, hF3, rfl⟩ := split_two hB3 hb32 hO32 hO31 hlt3; clear hB3 hb31 hb32 hO31 hO32 hlt3 hd3; (repeat (first | simp only [size_more_eq] at hE3 | simp only [World.size_alloc] at hE3)); (repeat (first | simp only [size_more_eq] at hF3 | simp only [World.size_alloc] at hF3)); subst hE3; subst hF3)))
  all_goals (clear hA hB hT hRA hRB)
  all_goals go_wp2_with fail
  all_goals ((refine wp_region_quiet (C := Ext _) (by kernel_rfl) (by kernel_rfl) (Ext.start _) ?_; simp only []; (repeat (refine wpQuiet_step (fun K hK => ?_); go_simp; (try go_bits); apply Exists.intro; refine ⟨fun w' hw' => ?_, hK _ ?_⟩; (focus (first | with_reducible exact rfl | (go_at_call 58; (first | with_reducible exact Ext.call hw' (hnorm_any _ hNB _) | with_reducible exact Ext.call hw' (hnorm_any _ hNA _))) | (obtain ⟨gx, rfl⟩ := more_of_below (Ext.below hw'); go_simp; exact rfl))); clear hK K)); refine wpQuiet_nil ?_; intro w4 hw4; have hb4 := Ext.below hw4; clear hw4; obtain ⟨g4, rfl⟩ := more_of_below hb4; clear hb4))
  all_goals go_wp2
  all_goals go_region
  all_goals go_wp2
  all_goals (first | (have hp : x.pickb y = true := decide_eq_true ‹_›) | (have hp : x.pickb y = false := decide_eq_false (Int.not_lt.2 ‹_›)))
  all_goals (refine bodyPost_ret (v := .tuple #[.agg #[.int .i64 (x.quo y).w, .int .i64 (x.quo y).x, .int .i64 (x.quo y).y, .int .i64 (x.quo y).z], .agg #[.int .i64 (x.dr y).w, .int .i64 (x.dr y).x, .int .i64 (x.dr y).y, .int .i64 (x.dr y).z]]) (by simp [results, Tryd.results36, go_sem, Qt.dr, Qt.quo, hp, Qt.rm]) rfl ⟨rfl, ?_⟩)
  all_goals ((repeat (first | with_reducible assumption | with_reducible exact Below.refl _ _ | with_reducible refine Below.drewN ?_ _ | with_reducible refine Below.drew ?_ | with_reducible refine Below.alloc ?_ (by first | omega | (simp; done) | (simp; omega)) _ | with_reducible refine Below.setCell ?_ (by first | omega | (simp; done) | (simp; omega)) _ | with_reducible refine below_more _ _ ?_ (by first | omega | (simp; done) | (simp; omega)))))

end Go.Proofs.YthajaabgcbjfkaaDoor

namespace Go.Proofs.YthajaabgcbjfkaaDoor
open Go.RowKit
namespace Qt

/-- The distance, at the coordinates of twice the product. -/
def dst (x y q : Qt) : Qt := (dbl (y.conj.mul x)).sub ⟨y.nrm * q.w, y.nrm * q.x, y.nrm * q.y, y.nrm * q.z⟩
theorem dst_nrm (x y q : Qt) : y.nrm * ((dbl x).sub (y.mul q)).nrm = (dst x y q).nrm := by
  rw [dst, ← rem_id, nrm_mul, nrm_conj]
theorem rm_dbl {x y q : Qt} (hy : Hz y) (hq : Hz q) : (dbl x).sub (y.mul q) = dbl (x.rm y q) := by
  unfold rm
  have := (hm_spec hy hq).2
  rw [show (y.mul q).over 2 = hm y q from rfl, this]
  apply ext' <;> (simp only [dbl, sub]; omega)
theorem rm_nrm {x y q : Qt} (hy : Hz y) (hq : Hz q) : y.nrm * (4 * (x.rm y q).nrm) = (dst x y q).nrm := by
  rw [← dst_nrm, rm_dbl hy hq, nrm_dbl]
/-- One coordinate: both candidates, from the product's coordinate t and the norm N. -/
theorem near_a (t N : Int) (hN : 1 ≤ N) : -N ≤ 2 * t - N * (2 * ((2 * t + N) / (2 * N))) ∧ 2 * t - N * (2 * ((2 * t + N) / (2 * N))) < N := by
  have h1 := Int.mul_ediv_add_emod (2 * t + N) (2 * N)
  have h2 := Int.emod_nonneg (2 * t + N) (b := 2 * N) (by omega)
  have h3 := Int.emod_lt_of_pos (2 * t + N) (b := 2 * N) (by omega)
  have h4 : N * (2 * ((2 * t + N) / (2 * N))) = 2 * N * ((2 * t + N) / (2 * N)) := by grind
  omega
theorem near_b (t N : Int) (hN : 1 ≤ N) : -N ≤ 2 * t - N * (2 * (t / N) + 1) ∧ 2 * t - N * (2 * (t / N) + 1) < N := by
  have h1 := Int.mul_ediv_add_emod t N
  have h2 := Int.emod_nonneg t (b := N) (by omega)
  have h3 := Int.emod_lt_of_pos t (b := N) (by omega)
  have h4 : N * (2 * (t / N) + 1) = 2 * (N * (t / N)) + N := by grind
  omega
/-- The two candidates' distances add up to N, in size. -/
theorem near_ab (t N : Int) (hN : 1 ≤ N) :
    (2 * t - N * (2 * ((2 * t + N) / (2 * N)))) * (2 * t - N * (2 * ((2 * t + N) / (2 * N)))) + (2 * t - N * (2 * (t / N) + 1)) * (2 * t - N * (2 * (t / N) + 1)) ≤ N * N := by
  obtain ⟨a1, a2⟩ := near_a t N hN
  obtain ⟨b1, b2⟩ := near_b t N hN
  -- the difference is N or -N (or 2N .. out of range)
  have hd : ∃ k : Int, (2 * t - N * (2 * (t / N) + 1)) - (2 * t - N * (2 * ((2 * t + N) / (2 * N)))) = N * (2 * k + 1) := ⟨(2 * t + N) / (2 * N) - t / N - 1, by grind⟩
  generalize 2 * t - N * (2 * ((2 * t + N) / (2 * N))) = u at *
  generalize 2 * t - N * (2 * (t / N) + 1) = v at *
  obtain ⟨k, hk⟩ := hd
  have hk1 : -2 < 2 * k + 1 := by
    apply Int.not_le.1; intro hc
    have : N * (2 * k + 1) ≤ N * (-2) := Int.mul_le_mul_of_nonneg_left hc (by omega)
    omega
  have hk2 : 2 * k + 1 < 2 := by
    apply Int.not_le.1; intro hc
    have : N * 2 ≤ N * (2 * k + 1) := Int.mul_le_mul_of_nonneg_left hc (by omega)
    omega
  have hk3 : k = 0 ∨ k = -1 := by omega
  rcases hk3 with rfl | rfl
  · obtain rfl : v = u + N := by omega
    have : u * (u + N) ≤ 0 := by
      have h1 : (-u) * (u + N) ≥ 0 := Int.mul_nonneg (by omega) (by omega)
      rw [Int.neg_mul] at h1; omega
    grind
  · obtain rfl : v = u - N := by omega
    have : u * (u - N) ≤ 0 := by
      have h1 : u * (N - u) ≥ 0 := Int.mul_nonneg (by omega) (by omega)
      grind
    grind
theorem n4 {y : Qt} (h : y.nrm % 4 = 0) : 4 * (y.nrm / 4) = y.nrm := by omega
theorem dst_a {x y : Qt} (h4 : y.nrm % 4 = 0) (h0 : 1 ≤ y.nrm) : (dst x y (x.qa y)).nrm ≤ 4 * (y.nrm * y.nrm) := by
  have sq : ∀ u N : Int, -N ≤ u → u < N → u * u ≤ N * N := fun u N h1 h2 => by
    have : (N - u) * (N + u) ≥ 0 := Int.mul_nonneg (by omega) (by omega)
    grind
  have k := fun t => near_a t y.nrm h0
  have k1 := sq _ _ (k (y.conj.mul x).w).1 (k (y.conj.mul x).w).2
  have k2 := sq _ _ (k (y.conj.mul x).x).1 (k (y.conj.mul x).x).2
  have k3 := sq _ _ (k (y.conj.mul x).y).1 (k (y.conj.mul x).y).2
  have k4 := sq _ _ (k (y.conj.mul x).z).1 (k (y.conj.mul x).z).2
  simp only [nrm, dst, qa, sub, dbl]
  rw [show 4 * ((y.w * y.w + y.x * y.x + y.y * y.y + y.z * y.z) / 4) = y.nrm from n4 h4]
  rw [show y.w * y.w + y.x * y.x + y.y * y.y + y.z * y.z = y.nrm from rfl]
  omega
theorem dst_b {x y : Qt} (h4 : y.nrm % 4 = 0) (h0 : 1 ≤ y.nrm) : (dst x y (x.qb y)).nrm ≤ 4 * (y.nrm * y.nrm) := by
  have sq : ∀ u N : Int, -N ≤ u → u < N → u * u ≤ N * N := fun u N h1 h2 => by
    have : (N - u) * (N + u) ≥ 0 := Int.mul_nonneg (by omega) (by omega)
    grind
  have k := fun t => near_b t y.nrm h0
  have k1 := sq _ _ (k (y.conj.mul x).w).1 (k (y.conj.mul x).w).2
  have k2 := sq _ _ (k (y.conj.mul x).x).1 (k (y.conj.mul x).x).2
  have k3 := sq _ _ (k (y.conj.mul x).y).1 (k (y.conj.mul x).y).2
  have k4 := sq _ _ (k (y.conj.mul x).z).1 (k (y.conj.mul x).z).2
  simp only [nrm, dst, qb, sub, dbl]
  rw [show 4 * ((y.w * y.w + y.x * y.x + y.y * y.y + y.z * y.z) / 4) = y.nrm from n4 h4]
  rw [show y.w * y.w + y.x * y.x + y.y * y.y + y.z * y.z = y.nrm from rfl]
  omega
theorem dst_ab {x y : Qt} (h4 : y.nrm % 4 = 0) (h0 : 1 ≤ y.nrm) : (dst x y (x.qa y)).nrm + (dst x y (x.qb y)).nrm ≤ 4 * (y.nrm * y.nrm) := by
  have k1 := near_ab (y.conj.mul x).w y.nrm h0
  have k2 := near_ab (y.conj.mul x).x y.nrm h0
  have k3 := near_ab (y.conj.mul x).y y.nrm h0
  have k4 := near_ab (y.conj.mul x).z y.nrm h0
  simp only [nrm, dst, qa, qb, sub, dbl]
  rw [show 4 * ((y.w * y.w + y.x * y.x + y.y * y.y + y.z * y.z) / 4) = y.nrm from n4 h4]
  rw [show y.w * y.w + y.x * y.x + y.y * y.y + y.z * y.z = y.nrm from rfl]
  omega
theorem le_of_n {N a b : Int} (h0 : 1 ≤ N) (h : N * a ≤ N * b) : a ≤ b := Int.le_of_mul_le_mul_left h (by omega)
theorem rm_a {x y : Qt} (hy : Hz y) (h0 : 1 ≤ y.nrm) : (x.rm y (x.qa y)).nrm ≤ y.nrm := by
  have h := rm_nrm (x := x) hy (hz_qa x y)
  have h2 := dst_a (x := x) (hz_nrm hy) h0
  have : y.nrm * (4 * (x.rm y (x.qa y)).nrm) ≤ y.nrm * (4 * y.nrm) := by grind
  have := le_of_n h0 this
  omega
theorem rm_b {x y : Qt} (hy : Hz y) (h0 : 1 ≤ y.nrm) : (x.rm y (x.qb y)).nrm ≤ y.nrm := by
  have h := rm_nrm (x := x) hy (hz_qb x y)
  have h2 := dst_b (x := x) (hz_nrm hy) h0
  have : y.nrm * (4 * (x.rm y (x.qb y)).nrm) ≤ y.nrm * (4 * y.nrm) := by grind
  have := le_of_n h0 this
  omega
theorem rm_ab {x y : Qt} (hy : Hz y) (h0 : 1 ≤ y.nrm) : (x.rm y (x.qa y)).nrm + (x.rm y (x.qb y)).nrm ≤ y.nrm := by
  have h := rm_nrm (x := x) hy (hz_qa x y)
  have h' := rm_nrm (x := x) hy (hz_qb x y)
  have h2 := dst_ab (x := x) (hz_nrm hy) h0
  have : y.nrm * (4 * ((x.rm y (x.qa y)).nrm + (x.rm y (x.qb y)).nrm)) ≤ y.nrm * (4 * y.nrm) := by grind
  have := le_of_n h0 this
  omega
theorem hz_quo (x y : Qt) : Hz (x.quo y) := by
  unfold quo; split
  · exact hz_qb x y
  · exact hz_qa x y
theorem hz_dr {x y : Qt} (hx : Hz x) (hy : Hz y) : Hz (x.dr y) := hz_rm hx hy (hz_quo x y)
/-- The remainder's norm is at most half of the divisor's. -/
theorem dr_nrm {x y : Qt} (hx : Hz x) (hy : Hz y) (h0 : 1 ≤ y.nrm) : 2 * (x.dr y).nrm ≤ y.nrm := by
  have h := rm_ab (x := x) hy h0
  have ha := hz_nrm (hz_rm hx hy (hz_qa x y))
  have hb := hz_nrm (hz_rm hx hy (hz_qb x y))
  unfold dr quo pickb
  split
  · rename_i hp; have := of_decide_eq_true hp; omega
  · rename_i hp; have := of_decide_eq_false (Bool.not_eq_true _ ▸ hp); omega
/-- What is divided is put together again. -/
theorem dr_eq (x y : Qt) (hy : Hz y) : (dbl x).sub (y.mul (x.quo y)) = dbl (x.dr y) := rm_dbl hy (hz_quo x y)
end Qt

/-- Division of Hurwitz quaternions. -/
theorem divide_hz (x y : Qt) (_hx : Qt.Hz x) (hy : Qt.Hz y) (bx : x.nrm ≤ 4000000000000) (b : y.nrm ≤ 4000000000000) (h0 : 1 ≤ y.nrm) (w : World) :
    Calls Tryd.prog 36 #[.agg #[.int .i64 x.w, .int .i64 x.x, .int .i64 x.y, .int .i64 x.z], .agg #[.int .i64 y.w, .int .i64 y.x, .int .i64 y.y, .int .i64 y.z]] w fun e w' => e = .returned (.tuple #[.agg #[.int .i64 (x.quo y).w, .int .i64 (x.quo y).x, .int .i64 (x.quo y).y, .int .i64 (x.quo y).z], .agg #[.int .i64 (x.dr y).w, .int .i64 (x.dr y).x, .int .i64 (x.dr y).y, .int .i64 (x.dr y).z]]) ∧ Below w.heap.size w w' := by
  have hD : Qt.Dv x y := ⟨bx, b, h0, Qt.hz_nrm hy⟩
  have ht : (y.conj.mul x).nrm ≤ 4000000000000 * 4000000000000 := by
    rw [Qt.nrm_mul, Qt.nrm_conj]
    exact Int.le_trans (Int.mul_le_mul_of_nonneg_left bx (by omega)) (Int.mul_le_mul_of_nonneg_right b (by omega))
  have hT : Qt.Bd 4000000000000 (y.conj.mul x) := Qt.bd_of_nrm (by omega) ht
  have hx1 := Qt.bd_of_nrm (a := x) (B := 2000000) (by omega) (by omega)
  have ra := Qt.rm_a (x := x) hy h0
  have rb := Qt.rm_b (x := x) hy h0
  have big : ∀ q, Qt.Hz q → (x.rm y q).nrm ≤ y.nrm → (y.mul q).InR := fun q hq hr => by
    have h1 := Qt.rm_dbl (x := x) hy hq
    have h2 := Qt.bd_of_nrm (a := x.rm y q) (B := 2000000) (by omega) (by omega)
    have e1 := congrArg Qt.w h1; have e2 := congrArg Qt.x h1; have e3 := congrArg Qt.y h1; have e4 := congrArg Qt.z h1
    simp only [Qt.dbl, Qt.sub] at e1 e2 e3 e4
    obtain ⟨⟨_, _⟩, ⟨_, _⟩, ⟨_, _⟩, ⟨_, _⟩⟩ := hx1
    obtain ⟨⟨_, _⟩, ⟨_, _⟩, ⟨_, _⟩, ⟨_, _⟩⟩ := h2
    unfold Qt.InR
    refine ⟨?_, ?_, ?_, ?_⟩ <;> omega
  exact divide_in x y w hD (Qt.inR_of_nrm (by omega)) (Qt.inR_of_nrm (by omega)) (big _ (Qt.hz_qa x y) ra) (big _ (Qt.hz_qb x y) rb)
    (Qt.inR_of_nrm (by omega)) (Qt.inR_of_nrm (by omega)) (by omega) (by omega) hT
end Go.Proofs.YthajaabgcbjfkaaDoor
