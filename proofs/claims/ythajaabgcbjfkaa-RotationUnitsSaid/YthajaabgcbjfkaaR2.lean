/- Contracts of the reference: products. -/
import Derived.Test.YthajaabgcbjfkaaR1
namespace Go.Proofs.Ythajaabgcbjfkaa
open Go.RowKit

/-- The product, in the reference's spelling. -/
def Qt.mulR (a b : Qt) : Qt := ⟨a.w * b.w - a.x * b.x - a.y * b.y - a.z * b.z, a.w * b.x + a.x * b.w + a.y * b.z - a.z * b.y, a.w * b.y - a.x * b.z + a.y * b.w + a.z * b.x, a.w * b.z + a.x * b.y - a.y * b.x + a.z * b.w⟩
theorem Qt.mulR_eq (a b : Qt) : a.mulR b = a.mul b := by apply Qt.ext' <;> simp only [Qt.mulR, Qt.mul] <;> omega

set_option maxHeartbeats 1000000 in
theorem product_any (a b : Qt) (w : World) :
    Calls Try.prog 72 #[.agg #[.int .i64 a.w, .int .i64 a.x, .int .i64 a.y, .int .i64 a.z], .agg #[.int .i64 b.w, .int .i64 b.x, .int .i64 b.y, .int .i64 b.z]] w fun e w' => e = .returned (.agg #[.int .i64 ((a.mulR b).wr).w, .int .i64 ((a.mulR b).wr).x, .int .i64 ((a.mulR b).wr).y, .int .i64 ((a.mulR b).wr).z]) ∧ Below w.heap.size w w' := by
  go_enter Try.func72, Try.ntmps72
  go_wp2
  refine bodyPost_ret (v := .agg #[.int .i64 ((a.mulR b).wr).w, .int .i64 ((a.mulR b).wr).x, .int .i64 ((a.mulR b).wr).y, .int .i64 ((a.mulR b).wr).z]) (by simp [results, Try.results72, go_sem, Qt.wr, Qt.mulR, wr_add_l, wr_add_r, wr_sub_l, wr_sub_r]) rfl ⟨rfl, ?_⟩
  (repeat (first | with_reducible assumption | with_reducible exact Below.refl _ _ | with_reducible refine Below.drewN ?_ _ | with_reducible refine Below.drew ?_ | with_reducible refine Below.alloc ?_ (by first | omega | (simp; done) | (simp; omega)) _ | with_reducible refine Below.setCell ?_ (by first | omega | (simp; done) | (simp; omega)) _ | with_reducible refine below_more _ _ ?_ (by first | omega | (simp; done) | (simp; omega))))
theorem product_in (a b : Qt) (w : World) (h : (a.mul b).InR) :
    Calls Try.prog 72 #[.agg #[.int .i64 a.w, .int .i64 a.x, .int .i64 a.y, .int .i64 a.z], .agg #[.int .i64 b.w, .int .i64 b.x, .int .i64 b.y, .int .i64 b.z]] w fun e w' => e = .returned (.agg #[.int .i64 (a.mul b).w, .int .i64 (a.mul b).x, .int .i64 (a.mul b).y, .int .i64 (a.mul b).z]) ∧ Below w.heap.size w w' := by
  have := product_any a b w
  rwa [Qt.mulR_eq, Qt.wr_InR h] at this

set_option maxHeartbeats 400000 in
theorem rtimes_in (a b : Qt) (h : (a.mul b).InR) (w : World) :
    Calls Try.prog 23 #[.agg #[.int .i64 a.w, .int .i64 a.x, .int .i64 a.y, .int .i64 a.z], .agg #[.int .i64 b.w, .int .i64 b.x, .int .i64 b.y, .int .i64 b.z]] w fun e w' => e = .returned (.agg #[.int .i64 ((a.mul b).over 2).w, .int .i64 ((a.mul b).over 2).x, .int .i64 ((a.mul b).over 2).y, .int .i64 ((a.mul b).over 2).z]) ∧ Below w.heap.size w w' := by
  have hh := h
  obtain ⟨⟨h0, h0'⟩, ⟨h1, h1'⟩, ⟨h2, h2'⟩, ⟨h3, h3'⟩⟩ := hh
  have b0 := Qt.tdiv_bd _ 2 _ (by omega) (by omega) ⟨h0, h0'⟩
  have b1 := Qt.tdiv_bd _ 2 _ (by omega) (by omega) ⟨h1, h1'⟩
  have b2 := Qt.tdiv_bd _ 2 _ (by omega) (by omega) ⟨h2, h2'⟩
  have b3 := Qt.tdiv_bd _ 2 _ (by omega) (by omega) ⟨h3, h3'⟩
  go_enter Try.func23, Try.ntmps23
  go_wp2_with (first | (go_at_call 72; with_reducible refine (product_in _ _ _ h).mono ?_; rintro e w1 ⟨rfl, hb1⟩; obtain ⟨g1, rfl⟩ := more_of_below hb1; clear hb1))
  refine bodyPost_ret (v := .agg #[.int .i64 ((a.mul b).over 2).w, .int .i64 ((a.mul b).over 2).x, .int .i64 ((a.mul b).over 2).y, .int .i64 ((a.mul b).over 2).z]) (by simp [results, Try.results23, go_sem, Qt.over]) rfl ⟨rfl, ?_⟩
  (repeat (first | with_reducible assumption | with_reducible exact Below.refl _ _ | with_reducible refine Below.drewN ?_ _ | with_reducible refine Below.drew ?_ | with_reducible refine Below.alloc ?_ (by first | omega | (simp; done) | (simp; omega)) _ | with_reducible refine Below.setCell ?_ (by first | omega | (simp; done) | (simp; omega)) _ | with_reducible refine below_more _ _ ?_ (by first | omega | (simp; done) | (simp; omega))))

set_option maxHeartbeats 400000 in
theorem rconj_any (a : Qt) (w : World) :
    Calls Try.prog 70 #[.agg #[.int .i64 a.w, .int .i64 a.x, .int .i64 a.y, .int .i64 a.z]] w fun e w' => e = .returned (.agg #[.int .i64 a.w, .int .i64 (wrap64 (-a.x)), .int .i64 (wrap64 (-a.y)), .int .i64 (wrap64 (-a.z))]) ∧ Below w.heap.size w w' := by
  go_enter Try.func70, Try.ntmps70
  go_wp2
  refine bodyPost_ret (v := .agg #[.int .i64 a.w, .int .i64 (wrap64 (-a.x)), .int .i64 (wrap64 (-a.y)), .int .i64 (wrap64 (-a.z))]) (by simp [results, Try.results70, go_sem]) rfl ⟨rfl, ?_⟩
  (repeat (first | with_reducible assumption | with_reducible exact Below.refl _ _ | with_reducible refine Below.drewN ?_ _ | with_reducible refine Below.drew ?_ | with_reducible refine Below.alloc ?_ (by first | omega | (simp; done) | (simp; omega)) _ | with_reducible refine Below.setCell ?_ (by first | omega | (simp; done) | (simp; omega)) _ | with_reducible refine below_more _ _ ?_ (by first | omega | (simp; done) | (simp; omega))))
theorem rconj_in (a : Qt) (w : World) (h : a.InR) :
    Calls Try.prog 70 #[.agg #[.int .i64 a.w, .int .i64 a.x, .int .i64 a.y, .int .i64 a.z]] w fun e w' => e = .returned (.agg #[.int .i64 a.conj.w, .int .i64 a.conj.x, .int .i64 a.conj.y, .int .i64 a.conj.z]) ∧ Below w.heap.size w w' := by
  have := rconj_any a w
  obtain ⟨h0, h1, h2, h3⟩ := h
  rwa [wr_in _ (by omega), wr_in _ (by omega), wr_in _ (by omega)] at this

set_option maxHeartbeats 400000 in
theorem rminus_any (a b : Qt) (w : World) :
    Calls Try.prog 22 #[.agg #[.int .i64 a.w, .int .i64 a.x, .int .i64 a.y, .int .i64 a.z], .agg #[.int .i64 b.w, .int .i64 b.x, .int .i64 b.y, .int .i64 b.z]] w fun e w' => e = .returned (.agg #[.int .i64 ((a.sub b).wr).w, .int .i64 ((a.sub b).wr).x, .int .i64 ((a.sub b).wr).y, .int .i64 ((a.sub b).wr).z]) ∧ Below w.heap.size w w' := by
  go_enter Try.func22, Try.ntmps22
  go_wp2
  refine bodyPost_ret (v := .agg #[.int .i64 ((a.sub b).wr).w, .int .i64 ((a.sub b).wr).x, .int .i64 ((a.sub b).wr).y, .int .i64 ((a.sub b).wr).z]) (by simp [results, Try.results22, go_sem, Qt.wr, Qt.sub]) rfl ⟨rfl, ?_⟩
  (repeat (first | with_reducible assumption | with_reducible exact Below.refl _ _ | with_reducible refine Below.drewN ?_ _ | with_reducible refine Below.drew ?_ | with_reducible refine Below.alloc ?_ (by first | omega | (simp; done) | (simp; omega)) _ | with_reducible refine Below.setCell ?_ (by first | omega | (simp; done) | (simp; omega)) _ | with_reducible refine below_more _ _ ?_ (by first | omega | (simp; done) | (simp; omega))))
theorem rminus_in (a b : Qt) (h : (a.sub b).InR) (w : World) :
    Calls Try.prog 22 #[.agg #[.int .i64 a.w, .int .i64 a.x, .int .i64 a.y, .int .i64 a.z], .agg #[.int .i64 b.w, .int .i64 b.x, .int .i64 b.y, .int .i64 b.z]] w fun e w' => e = .returned (.agg #[.int .i64 (a.sub b).w, .int .i64 (a.sub b).x, .int .i64 (a.sub b).y, .int .i64 (a.sub b).z]) ∧ Below w.heap.size w w' := by
  have := rminus_any a b w
  rwa [Qt.wr_InR h] at this

set_option maxHeartbeats 400000 in
theorem rzero_any (a : Qt) (w : World) :
    Calls Try.prog 18 #[.agg #[.int .i64 a.w, .int .i64 a.x, .int .i64 a.y, .int .i64 a.z]] w fun e w' => e = .returned (.bool (a.eqb ⟨0, 0, 0, 0⟩)) ∧ Below w.heap.size w w' := by
  go_enter Try.func18, Try.ntmps18
  go_wp2
  go_ret
  exact ⟨rfl, by (repeat (first | with_reducible assumption | with_reducible exact Below.refl _ _ | with_reducible refine Below.drewN ?_ _ | with_reducible refine Below.drew ?_ | with_reducible refine Below.alloc ?_ (by first | omega | (simp; done) | (simp; omega)) _ | with_reducible refine Below.setCell ?_ (by first | omega | (simp; done) | (simp; omega)) _ | with_reducible refine below_more _ _ ?_ (by first | omega | (simp; done) | (simp; omega))))⟩

set_option maxHeartbeats 400000 in
theorem rnorm_in (a : Qt) (h : a.nrm ≤ 9000000000000000000) (w : World) :
    Calls Try.prog 21 #[.agg #[.int .i64 a.w, .int .i64 a.x, .int .i64 a.y, .int .i64 a.z]] w fun e w' => e = .returned (.int .i64 (a.nrm / 4)) ∧ Below w.heap.size w w' := by
  have h0 := a.nrm_nonneg
  obtain ⟨s0, s1, s2, s3⟩ : 0 ≤ a.w * a.w ∧ 0 ≤ a.x * a.x ∧ 0 ≤ a.y * a.y ∧ 0 ≤ a.z * a.z := ⟨Qt.sq_nonneg _, Qt.sq_nonneg _, Qt.sq_nonneg _, Qt.sq_nonneg _⟩
  have hs : a.w * a.w + a.x * a.x + a.y * a.y + a.z * a.z ≤ 9000000000000000000 := h
  have e : a.nrm = a.w * a.w + a.x * a.x + a.y * a.y + a.z * a.z := rfl
  rw [e]
  clear e h h0
  go_enter Try.func21, Try.ntmps21
  go_wp2
  go_ret
  exact ⟨rfl, by (repeat (first | with_reducible assumption | with_reducible exact Below.refl _ _ | with_reducible refine Below.drewN ?_ _ | with_reducible refine Below.drew ?_ | with_reducible refine Below.alloc ?_ (by first | omega | (simp; done) | (simp; omega)) _ | with_reducible refine Below.setCell ?_ (by first | omega | (simp; done) | (simp; omega)) _ | with_reducible refine below_more _ _ ?_ (by first | omega | (simp; done) | (simp; omega))))⟩

set_option maxRecDepth 10000 in
set_option maxHeartbeats 1000000 in
theorem greater_w (a b : Qt) (w : World) (hw : (a.w != b.w) = true) :
    Calls Try.prog 89 #[.agg #[.int .i64 a.w, .int .i64 a.x, .int .i64 a.y, .int .i64 a.z], .agg #[.int .i64 b.w, .int .i64 b.x, .int .i64 b.y, .int .i64 b.z]] w fun e w' => e = .returned (.bool (decide (b.w < a.w))) ∧ Below w.heap.size w w' := by
  go_enter Try.func89, Try.ntmps89
  go_wp2
  refine wp_loop_rounds 5 ?_
  repeat any_goals (rw [rounds_succ]; go_wp2; (all_goals (try (go_region; go_wp2))); (all_goals (try (go_region; go_wp2))))
  all_goals (go_ret; exact ⟨rfl, by (repeat (first | with_reducible assumption | with_reducible exact Below.refl _ _ | with_reducible refine Below.drewN ?_ _ | with_reducible refine Below.drew ?_ | with_reducible refine Below.alloc ?_ (by first | omega | (simp; done) | (simp; omega)) _ | with_reducible refine Below.setCell ?_ (by first | omega | (simp; done) | (simp; omega)) _ | with_reducible refine below_more _ _ ?_ (by first | omega | (simp; done) | (simp; omega))))⟩)
set_option maxRecDepth 10000 in
set_option maxHeartbeats 1000000 in
theorem greater_x (a b : Qt) (w : World) (hw : (a.w != b.w) = false) (hx : (a.x != b.x) = true) :
    Calls Try.prog 89 #[.agg #[.int .i64 a.w, .int .i64 a.x, .int .i64 a.y, .int .i64 a.z], .agg #[.int .i64 b.w, .int .i64 b.x, .int .i64 b.y, .int .i64 b.z]] w fun e w' => e = .returned (.bool (decide (b.x < a.x))) ∧ Below w.heap.size w w' := by
  go_enter Try.func89, Try.ntmps89
  go_wp2
  refine wp_loop_rounds 5 ?_
  repeat any_goals (rw [rounds_succ]; go_wp2; (all_goals (try (go_region; go_wp2))); (all_goals (try (go_region; go_wp2))))
  all_goals (go_ret; exact ⟨rfl, by (repeat (first | with_reducible assumption | with_reducible exact Below.refl _ _ | with_reducible refine Below.drewN ?_ _ | with_reducible refine Below.drew ?_ | with_reducible refine Below.alloc ?_ (by first | omega | (simp; done) | (simp; omega)) _ | with_reducible refine Below.setCell ?_ (by first | omega | (simp; done) | (simp; omega)) _ | with_reducible refine below_more _ _ ?_ (by first | omega | (simp; done) | (simp; omega))))⟩)
set_option maxRecDepth 10000 in
set_option maxHeartbeats 1000000 in
theorem greater_y (a b : Qt) (w : World) (hw : (a.w != b.w) = false) (hx : (a.x != b.x) = false) (hy : (a.y != b.y) = true) :
    Calls Try.prog 89 #[.agg #[.int .i64 a.w, .int .i64 a.x, .int .i64 a.y, .int .i64 a.z], .agg #[.int .i64 b.w, .int .i64 b.x, .int .i64 b.y, .int .i64 b.z]] w fun e w' => e = .returned (.bool (decide (b.y < a.y))) ∧ Below w.heap.size w w' := by
  go_enter Try.func89, Try.ntmps89
  go_wp2
  refine wp_loop_rounds 5 ?_
  repeat any_goals (rw [rounds_succ]; go_wp2; (all_goals (try (go_region; go_wp2))); (all_goals (try (go_region; go_wp2))))
  all_goals (go_ret; exact ⟨rfl, by (repeat (first | with_reducible assumption | with_reducible exact Below.refl _ _ | with_reducible refine Below.drewN ?_ _ | with_reducible refine Below.drew ?_ | with_reducible refine Below.alloc ?_ (by first | omega | (simp; done) | (simp; omega)) _ | with_reducible refine Below.setCell ?_ (by first | omega | (simp; done) | (simp; omega)) _ | with_reducible refine below_more _ _ ?_ (by first | omega | (simp; done) | (simp; omega))))⟩)
set_option maxRecDepth 10000 in
set_option maxHeartbeats 1000000 in
theorem greater_z (a b : Qt) (w : World) (hw : (a.w != b.w) = false) (hx : (a.x != b.x) = false) (hy : (a.y != b.y) = false) (hz : (a.z != b.z) = true) :
    Calls Try.prog 89 #[.agg #[.int .i64 a.w, .int .i64 a.x, .int .i64 a.y, .int .i64 a.z], .agg #[.int .i64 b.w, .int .i64 b.x, .int .i64 b.y, .int .i64 b.z]] w fun e w' => e = .returned (.bool (decide (b.z < a.z))) ∧ Below w.heap.size w w' := by
  go_enter Try.func89, Try.ntmps89
  go_wp2
  refine wp_loop_rounds 5 ?_
  repeat any_goals (rw [rounds_succ]; go_wp2; (all_goals (try (go_region; go_wp2))); (all_goals (try (go_region; go_wp2))))
  all_goals (go_ret; exact ⟨rfl, by (repeat (first | with_reducible assumption | with_reducible exact Below.refl _ _ | with_reducible refine Below.drewN ?_ _ | with_reducible refine Below.drew ?_ | with_reducible refine Below.alloc ?_ (by first | omega | (simp; done) | (simp; omega)) _ | with_reducible refine Below.setCell ?_ (by first | omega | (simp; done) | (simp; omega)) _ | with_reducible refine below_more _ _ ?_ (by first | omega | (simp; done) | (simp; omega))))⟩)
set_option maxRecDepth 10000 in
set_option maxHeartbeats 1000000 in
theorem greater_e (a b : Qt) (w : World) (hw : (a.w != b.w) = false) (hx : (a.x != b.x) = false) (hy : (a.y != b.y) = false) (hz : (a.z != b.z) = false) :
    Calls Try.prog 89 #[.agg #[.int .i64 a.w, .int .i64 a.x, .int .i64 a.y, .int .i64 a.z], .agg #[.int .i64 b.w, .int .i64 b.x, .int .i64 b.y, .int .i64 b.z]] w fun e w' => e = .returned (.bool (false)) ∧ Below w.heap.size w w' := by
  go_enter Try.func89, Try.ntmps89
  go_wp2
  refine wp_loop_rounds 5 ?_
  repeat any_goals (rw [rounds_succ]; go_wp2; (all_goals (try (go_region; go_wp2))); (all_goals (try (go_region; go_wp2))))
  all_goals (go_ret; exact ⟨rfl, by (repeat (first | with_reducible assumption | with_reducible exact Below.refl _ _ | with_reducible refine Below.drewN ?_ _ | with_reducible refine Below.drew ?_ | with_reducible refine Below.alloc ?_ (by first | omega | (simp; done) | (simp; omega)) _ | with_reducible refine Below.setCell ?_ (by first | omega | (simp; done) | (simp; omega)) _ | with_reducible refine below_more _ _ ?_ (by first | omega | (simp; done) | (simp; omega))))⟩)
theorem greater_any (a b : Qt) (w : World) :
    Calls Try.prog 89 #[.agg #[.int .i64 a.w, .int .i64 a.x, .int .i64 a.y, .int .i64 a.z], .agg #[.int .i64 b.w, .int .i64 b.x, .int .i64 b.y, .int .i64 b.z]] w fun e w' => e = .returned (.bool (b.ltb a)) ∧ Below w.heap.size w w' := by
  have n : ∀ {x y : Int}, ¬ x = y → (x != y) = true := fun h => by simpa using h
  have q : ∀ {x y : Int}, x = y → (x != y) = false := fun h => by simpa using h
  by_cases h0 : a.w = b.w
  · by_cases h1 : a.x = b.x
    · by_cases h2 : a.y = b.y
      · rw [Qt.ltb_z h0 h1 h2]
        by_cases h3 : a.z = b.z
        · have := greater_e a b w (q h0) (q h1) (q h2) (q h3)
          rwa [show decide (b.z < a.z) = false by simp; omega]
        · exact greater_z a b w (q h0) (q h1) (q h2) (n h3)
      · rw [Qt.ltb_y h0 h1 h2]; exact greater_y a b w (q h0) (q h1) (n h2)
    · rw [Qt.ltb_x h0 h1]; exact greater_x a b w (q h0) (n h1)
  · rw [Qt.ltb_w h0]; exact greater_w a b w (n h0)
end Go.Proofs.Ythajaabgcbjfkaa
