/- Contracts of the reference: numbers. Contracts of the reference: products. Contracts of the reference: reading elements. -/
import Derived.Test.YthajaabgcbjfkaaDoorA1
import Derived.Test.YthajaabgcbjfkaaDoorP1
import Derived.Test.YthajaabgcbjfkaaDoorO1
namespace Go.Proofs.YthajaabgcbjfkaaDoor
open Go.RowKit

def inB (n lo hi : Int) : Bool := decide (lo ≤ n ∧ n ≤ hi)
set_option maxHeartbeats 400000 in
theorem within_any (n lo hi : Int) (w : World) :
    Calls Tryd.prog 7 #[.int .i64 n, .int .i64 lo, .int .i64 hi] w fun e w' => e = .returned (.bool (inB n lo hi)) ∧ w = w' := by
  by_cases h : lo ≤ n
  · go_enter Tryd.func7, Tryd.ntmps7
    go_wp2
    go_ret
    refine ⟨?_, rfl⟩
    simp [inB, h]
  · have h' : n < lo := by omega
    go_enter Tryd.func7, Tryd.ntmps7
    go_wp2
    go_ret
    refine ⟨?_, rfl⟩
    simp [inB]; omega

set_option maxHeartbeats 400000 in
theorem rabs_any (a : Int) (w : World) (ha : -9223372036854775807 ≤ a) (ha2 : a ≤ 9223372036854775807) :
    Calls Tryd.prog 51 #[.int .i64 a] w fun e w' => e = .returned (.int .i64 ((a.natAbs : Int))) ∧ w = w' := by
  go_enter Tryd.func51, Tryd.ntmps51
  go_wp2
  all_goals (go_ret; refine ⟨?_, rfl⟩; simp; omega)

theorem mod_key (a b : Int) (hb : 1 ≤ b) : (0 ≤ a.tmod b → a.tmod b = a % b) ∧ (a.tmod b < 0 → a.tmod b + b = a % b) ∧ (-b < a.tmod b ∧ a.tmod b < b) := by
  rcases Int.le_total 0 a with h | h
  · rw [Int.tmod_eq_emod_of_nonneg h]
    have := Int.emod_nonneg a (show b ≠ 0 by omega)
    have := Int.emod_lt_of_pos a (show 0 < b by omega)
    exact ⟨fun _ => rfl, fun hh => by omega, by omega, by omega⟩
  · have e2 : a.tmod b = -((-a) % b) := by
      have : a.tmod b = -((-a).tmod b) := by rw [Int.neg_tmod, Int.neg_neg]
      rw [this, Int.tmod_eq_emod_of_nonneg (by omega)]
    have hm := Int.emod_nonneg (-a) (show b ≠ 0 by omega)
    have hm2 := Int.emod_lt_of_pos (-a) (show 0 < b by omega)
    have hd := Int.mul_ediv_add_emod (-a) b
    rw [e2]
    generalize hq : (-a) / b = q at *
    generalize hr : (-a) % b = r at *
    have e : a = -r + b * (-q) := by rw [Int.mul_neg]; omega
    refine ⟨fun hh => ?_, fun hh => ?_, by omega, by omega⟩
    · have hr0 : r = 0 := by omega
      rw [e, hr0]; simp
    · rw [show a = (b - r) + b * (-q - 1) by rw [Int.mul_sub, Int.mul_neg]; omega, Int.add_mul_emod_self_left, Int.emod_eq_of_lt (by omega) (by omega)]
      omega


theorem floor_mod (a b : Int) (hb : 1 ≤ b) : (a - a % b).tdiv b = a / b := by
  have hd := Int.mul_ediv_add_emod a b
  rw [show a - a % b = b * (a / b) by omega, Int.mul_tdiv_cancel_left _ (by omega)]

theorem igcd_step (p q : Int) : igcd q (p.tmod q) = igcd p q := by
  unfold igcd
  rw [Int.gcd_eq_natAbs_gcd_natAbs, Int.gcd_eq_natAbs_gcd_natAbs, Int.natAbs_tmod, Nat.gcd_comm, ← Nat.gcd_rec, Nat.gcd_comm]
theorem tmod_lt (p q : Int) (hq : ¬ q = 0) : (p.tmod q).natAbs < q.natAbs := by
  rw [Int.natAbs_tmod]; exact Nat.mod_lt _ (by omega)
theorem igcd_zero (p : Int) : igcd p 0 = (p.natAbs : Int) := by unfold igcd; rw [Int.gcd_zero_right]
/-- The state of the loop that Gcd is. -/
def BG (g : Int) (a b : Value) : Prop := ∃ p q : Int, a = .int .i64 p ∧ b = .int .i64 q ∧ igcd p q = g ∧ p.natAbs ≤ 4000000000000000000 ∧ q.natAbs ≤ 4000000000000000000
set_option maxHeartbeats 400000 in
theorem bgcd_in (a b : Int) (ha : a.natAbs ≤ 4000000000000000000) (hb : b.natAbs ≤ 4000000000000000000) (w : World) :
    Calls Tryd.prog 31 #[.int .i64 a, .int .i64 b] w fun e w' => e = .returned (.int .i64 (igcd a b)) ∧ Below w.heap.size w w' := by
  go_enter Tryd.func31, Tryd.ntmps31
  go_wp2
  go_loopw [0, 1] (fun x y wr => BG (igcd a b) x y ∧ Ext w wr) (fun _ y _ => (intOf y).natAbs)
  case atStart => exact ⟨⟨a, b, rfl, rfl, rfl, ha, hb⟩, Ext.refl _⟩
  case round =>
    obtain ⟨⟨p, q, rfl, rfl, hg, hp, hq⟩, hext⟩ := hrel
    have HG := Lib.hid hg
    clear hg
    obtain ⟨g0, rfl⟩ := more_of_below (Ext.below hext)
    clear hext
    by_cases hq0 : q = 0
    · subst hq0
      have h1 : -9223372036854775807 ≤ p := by omega
      have h2 : p ≤ 9223372036854775807 := by omega
      have h3 : ((0 : Int) != 0) = false := by decide
      go_wp2_with (first | (go_at_call 51; with_reducible refine (rabs_any p _ h1 h2).mono ?_; rintro e w' ⟨rfl, rfl⟩))
      go_ret
      exact ⟨by rw [← HG.out, igcd_zero]; rfl, by (repeat (first | with_reducible assumption | with_reducible exact Below.refl _ _ | with_reducible refine Below.drewN ?_ _ | with_reducible refine Below.drew ?_ | with_reducible refine Below.alloc ?_ (by first | omega | (simp; done) | (simp; omega)) _ | with_reducible refine Below.setCell ?_ (by first | omega | (simp; done) | (simp; omega)) _ | with_reducible refine below_more _ _ ?_ (by first | omega | (simp; done) | (simp; omega))))⟩
    · have hs := tmod_lt p q hq0
      have h1 : (q != 0) = true := by simpa using hq0
      have hs3 := hs
      rw [Int.natAbs_tmod] at hs3
      have hs1 : -4000000000000000000 ≤ p.tmod q := by omega
      have hs2 : p.tmod q ≤ 4000000000000000000 := by omega
      go_wp2
      go_region
      go_wp2
      go_roundw
      case rel => exact ⟨⟨q, p.tmod q, rfl, by first | rfl | (simp; done), by rw [igcd_step]; exact HG.out, hq, by omega⟩, ext_mk (by (repeat (first | with_reducible assumption | with_reducible exact Below.refl _ _ | with_reducible refine Below.drewN ?_ _ | with_reducible refine Below.drew ?_ | with_reducible refine Below.alloc ?_ (by first | omega | (simp; done) | (simp; omega)) _ | with_reducible refine Below.setCell ?_ (by first | omega | (simp; done) | (simp; omega)) _ | with_reducible refine below_more _ _ ?_ (by first | omega | (simp; done) | (simp; omega)))))⟩
      case measure => simp [intOf]; omega

theorem bgcd_same (a b : Int) (ha : a.natAbs ≤ 4000000000000000000) (hb : b.natAbs ≤ 4000000000000000000) : igcd a b ≤ 4000000000000000000 ∧ 0 ≤ igcd a b := by
  refine ⟨?_, igcd_nonneg _ _⟩
  unfold igcd
  rw [Int.gcd_eq_natAbs_gcd_natAbs]
  by_cases h : a = 0
  · subst h; simp; omega
  · have := Nat.gcd_le_left b.natAbs (show 0 < a.natAbs by omega); omega
end Go.Proofs.YthajaabgcbjfkaaDoor

namespace Go.Proofs.YthajaabgcbjfkaaDoor
open Go.RowKit

/-- The product, in the reference's spelling. -/
def Qt.mulR (a b : Qt) : Qt := ⟨a.w * b.w - a.x * b.x - a.y * b.y - a.z * b.z, a.w * b.x + a.x * b.w + a.y * b.z - a.z * b.y, a.w * b.y - a.x * b.z + a.y * b.w + a.z * b.x, a.w * b.z + a.x * b.y - a.y * b.x + a.z * b.w⟩
theorem Qt.mulR_eq (a b : Qt) : a.mulR b = a.mul b := by apply Qt.ext' <;> simp only [Qt.mulR, Qt.mul] <;> omega

set_option maxHeartbeats 1000000 in
theorem product_any (a b : Qt) (w : World) :
    Calls Tryd.prog 27 #[.agg #[.int .i64 a.w, .int .i64 a.x, .int .i64 a.y, .int .i64 a.z], .agg #[.int .i64 b.w, .int .i64 b.x, .int .i64 b.y, .int .i64 b.z]] w fun e w' => e = .returned (.agg #[.int .i64 ((a.mulR b).wr).w, .int .i64 ((a.mulR b).wr).x, .int .i64 ((a.mulR b).wr).y, .int .i64 ((a.mulR b).wr).z]) ∧ Below w.heap.size w w' := by
  go_enter Tryd.func27, Tryd.ntmps27
  go_wp2
  refine bodyPost_ret (v := .agg #[.int .i64 ((a.mulR b).wr).w, .int .i64 ((a.mulR b).wr).x, .int .i64 ((a.mulR b).wr).y, .int .i64 ((a.mulR b).wr).z]) (by simp [results, Tryd.results27, go_sem, Qt.wr, Qt.mulR, wr_add_l, wr_add_r, wr_sub_l, wr_sub_r]) rfl ⟨rfl, ?_⟩
  (repeat (first | with_reducible assumption | with_reducible exact Below.refl _ _ | with_reducible refine Below.drewN ?_ _ | with_reducible refine Below.drew ?_ | with_reducible refine Below.alloc ?_ (by first | omega | (simp; done) | (simp; omega)) _ | with_reducible refine Below.setCell ?_ (by first | omega | (simp; done) | (simp; omega)) _ | with_reducible refine below_more _ _ ?_ (by first | omega | (simp; done) | (simp; omega))))
theorem product_in (a b : Qt) (w : World) (h : (a.mul b).InR) :
    Calls Tryd.prog 27 #[.agg #[.int .i64 a.w, .int .i64 a.x, .int .i64 a.y, .int .i64 a.z], .agg #[.int .i64 b.w, .int .i64 b.x, .int .i64 b.y, .int .i64 b.z]] w fun e w' => e = .returned (.agg #[.int .i64 (a.mul b).w, .int .i64 (a.mul b).x, .int .i64 (a.mul b).y, .int .i64 (a.mul b).z]) ∧ Below w.heap.size w w' := by
  have := product_any a b w
  rwa [Qt.mulR_eq, Qt.wr_InR h] at this






set_option maxRecDepth 10000 in
set_option maxHeartbeats 1000000 in
theorem greater_w (a b : Qt) (w : World) (hw : (a.w != b.w) = true) :
    Calls Tryd.prog 30 #[.agg #[.int .i64 a.w, .int .i64 a.x, .int .i64 a.y, .int .i64 a.z], .agg #[.int .i64 b.w, .int .i64 b.x, .int .i64 b.y, .int .i64 b.z]] w fun e w' => e = .returned (.bool (decide (b.w < a.w))) ∧ Below w.heap.size w w' := by
  go_enter Tryd.func30, Tryd.ntmps30
  go_wp2
  refine wp_loop_rounds 5 ?_
  repeat any_goals (rw [rounds_succ]; go_wp2; (all_goals (try (go_region; go_wp2))); (all_goals (try (go_region; go_wp2))))
  all_goals (go_ret; exact ⟨rfl, by (repeat (first | with_reducible assumption | with_reducible exact Below.refl _ _ | with_reducible refine Below.drewN ?_ _ | with_reducible refine Below.drew ?_ | with_reducible refine Below.alloc ?_ (by first | omega | (simp; done) | (simp; omega)) _ | with_reducible refine Below.setCell ?_ (by first | omega | (simp; done) | (simp; omega)) _ | with_reducible refine below_more _ _ ?_ (by first | omega | (simp; done) | (simp; omega))))⟩)
set_option maxRecDepth 10000 in
set_option maxHeartbeats 1000000 in
theorem greater_x (a b : Qt) (w : World) (hw : (a.w != b.w) = false) (hx : (a.x != b.x) = true) :
    Calls Tryd.prog 30 #[.agg #[.int .i64 a.w, .int .i64 a.x, .int .i64 a.y, .int .i64 a.z], .agg #[.int .i64 b.w, .int .i64 b.x, .int .i64 b.y, .int .i64 b.z]] w fun e w' => e = .returned (.bool (decide (b.x < a.x))) ∧ Below w.heap.size w w' := by
  go_enter Tryd.func30, Tryd.ntmps30
  go_wp2
  refine wp_loop_rounds 5 ?_
  repeat any_goals (rw [rounds_succ]; go_wp2; (all_goals (try (go_region; go_wp2))); (all_goals (try (go_region; go_wp2))))
  all_goals (go_ret; exact ⟨rfl, by (repeat (first | with_reducible assumption | with_reducible exact Below.refl _ _ | with_reducible refine Below.drewN ?_ _ | with_reducible refine Below.drew ?_ | with_reducible refine Below.alloc ?_ (by first | omega | (simp; done) | (simp; omega)) _ | with_reducible refine Below.setCell ?_ (by first | omega | (simp; done) | (simp; omega)) _ | with_reducible refine below_more _ _ ?_ (by first | omega | (simp; done) | (simp; omega))))⟩)
set_option maxRecDepth 10000 in
set_option maxHeartbeats 1000000 in
theorem greater_y (a b : Qt) (w : World) (hw : (a.w != b.w) = false) (hx : (a.x != b.x) = false) (hy : (a.y != b.y) = true) :
    Calls Tryd.prog 30 #[.agg #[.int .i64 a.w, .int .i64 a.x, .int .i64 a.y, .int .i64 a.z], .agg #[.int .i64 b.w, .int .i64 b.x, .int .i64 b.y, .int .i64 b.z]] w fun e w' => e = .returned (.bool (decide (b.y < a.y))) ∧ Below w.heap.size w w' := by
  go_enter Tryd.func30, Tryd.ntmps30
  go_wp2
  refine wp_loop_rounds 5 ?_
  repeat any_goals (rw [rounds_succ]; go_wp2; (all_goals (try (go_region; go_wp2))); (all_goals (try (go_region; go_wp2))))
  all_goals (go_ret; exact ⟨rfl, by (repeat (first | with_reducible assumption | with_reducible exact Below.refl _ _ | with_reducible refine Below.drewN ?_ _ | with_reducible refine Below.drew ?_ | with_reducible refine Below.alloc ?_ (by first | omega | (simp; done) | (simp; omega)) _ | with_reducible refine Below.setCell ?_ (by first | omega | (simp; done) | (simp; omega)) _ | with_reducible refine below_more _ _ ?_ (by first | omega | (simp; done) | (simp; omega))))⟩)
set_option maxRecDepth 10000 in
set_option maxHeartbeats 1000000 in
theorem greater_z (a b : Qt) (w : World) (hw : (a.w != b.w) = false) (hx : (a.x != b.x) = false) (hy : (a.y != b.y) = false) (hz : (a.z != b.z) = true) :
    Calls Tryd.prog 30 #[.agg #[.int .i64 a.w, .int .i64 a.x, .int .i64 a.y, .int .i64 a.z], .agg #[.int .i64 b.w, .int .i64 b.x, .int .i64 b.y, .int .i64 b.z]] w fun e w' => e = .returned (.bool (decide (b.z < a.z))) ∧ Below w.heap.size w w' := by
  go_enter Tryd.func30, Tryd.ntmps30
  go_wp2
  refine wp_loop_rounds 5 ?_
  repeat any_goals (rw [rounds_succ]; go_wp2; (all_goals (try (go_region; go_wp2))); (all_goals (try (go_region; go_wp2))))
  all_goals (go_ret; exact ⟨rfl, by (repeat (first | with_reducible assumption | with_reducible exact Below.refl _ _ | with_reducible refine Below.drewN ?_ _ | with_reducible refine Below.drew ?_ | with_reducible refine Below.alloc ?_ (by first | omega | (simp; done) | (simp; omega)) _ | with_reducible refine Below.setCell ?_ (by first | omega | (simp; done) | (simp; omega)) _ | with_reducible refine below_more _ _ ?_ (by first | omega | (simp; done) | (simp; omega))))⟩)
set_option maxRecDepth 10000 in
set_option maxHeartbeats 1000000 in
theorem greater_e (a b : Qt) (w : World) (hw : (a.w != b.w) = false) (hx : (a.x != b.x) = false) (hy : (a.y != b.y) = false) (hz : (a.z != b.z) = false) :
    Calls Tryd.prog 30 #[.agg #[.int .i64 a.w, .int .i64 a.x, .int .i64 a.y, .int .i64 a.z], .agg #[.int .i64 b.w, .int .i64 b.x, .int .i64 b.y, .int .i64 b.z]] w fun e w' => e = .returned (.bool (false)) ∧ Below w.heap.size w w' := by
  go_enter Tryd.func30, Tryd.ntmps30
  go_wp2
  refine wp_loop_rounds 5 ?_
  repeat any_goals (rw [rounds_succ]; go_wp2; (all_goals (try (go_region; go_wp2))); (all_goals (try (go_region; go_wp2))))
  all_goals (go_ret; exact ⟨rfl, by (repeat (first | with_reducible assumption | with_reducible exact Below.refl _ _ | with_reducible refine Below.drewN ?_ _ | with_reducible refine Below.drew ?_ | with_reducible refine Below.alloc ?_ (by first | omega | (simp; done) | (simp; omega)) _ | with_reducible refine Below.setCell ?_ (by first | omega | (simp; done) | (simp; omega)) _ | with_reducible refine below_more _ _ ?_ (by first | omega | (simp; done) | (simp; omega))))⟩)
theorem greater_any (a b : Qt) (w : World) :
    Calls Tryd.prog 30 #[.agg #[.int .i64 a.w, .int .i64 a.x, .int .i64 a.y, .int .i64 a.z], .agg #[.int .i64 b.w, .int .i64 b.x, .int .i64 b.y, .int .i64 b.z]] w fun e w' => e = .returned (.bool (b.ltb a)) ∧ Below w.heap.size w w' := by
  have n : ∀ {x y : Int}, ¬ x = y → (x != y) = true := fun h => by simpa using h
  have q : ∀ {x y : Int}, x = y → (x != y) = false := fun h => by simpa using h
  by_cases h0 : a.w = b.w
  · by_cases h1 : a.x = b.x
    · by_cases h2 : a.y = b.y
      · rw [Qt.ltb_z h0 h1 h2]
        by_cases h3 : a.z = b.z
        · have := greater_e a b w (q h0) (q h1) (q h2) (q h3)
          rwa [show decide (b.z < a.z) = false by simp; omega]
        · exact greater_z a b w (q h0) (q h1) (q h2) (n h3)
      · rw [Qt.ltb_y h0 h1 h2]; exact greater_y a b w (q h0) (q h1) (n h2)
    · rw [Qt.ltb_x h0 h1]; exact greater_x a b w (q h0) (n h1)
  · rw [Qt.ltb_w h0]; exact greater_w a b w (n h0)
end Go.Proofs.YthajaabgcbjfkaaDoor

namespace Go.Proofs.YthajaabgcbjfkaaDoor
open Go.RowKit

/-- Numbers within 4 * 10^18. -/
def N4 (x : Int) : Prop := -4000000000000000000 ≤ x ∧ x ≤ 4000000000000000000
theorem bgcd_4 (a b : Int) (ha : N4 a) (hb : N4 b) (w : World) :
    Calls Tryd.prog 31 #[.int .i64 a, .int .i64 b] w fun e w' => e = .returned (.int .i64 (igcd a b)) ∧ Below w.heap.size w w' :=
  bgcd_in a b (by unfold N4 at ha; omega) (by unfold N4 at hb; omega) w
theorem igcd_4 (a b : Int) (ha : N4 a) (hb : N4 b) : N4 (igcd a b) := by
  unfold N4 at *
  have := bgcd_same a b (by omega) (by omega)
  omega


set_option maxRecDepth 10000 in
set_option maxHeartbeats 1000000 in
theorem rquatErr_any (q : Qd) (w : World) :
    Calls Tryd.prog 50 #[.agg #[.int .i64 q.w, .int .i64 q.x, .int .i64 q.y, .int .i64 q.z, .int .i64 q.d]] w fun e w' => e = .returned (.int .i64 q.err) ∧ Below w.heap.size w w' := by
  have he : q.err = if (inB q.w (-1000000) 1000000 && (inB q.x (-1000000) 1000000 && (inB q.y (-1000000) 1000000 && (inB q.z (-1000000) 1000000 && inB q.d 1 1000000)))) = true then 0 else 3 := by
    unfold Qd.err Qd.okb inB
    simp only [Bool.and_eq_true, decide_eq_true_eq]
  generalize q.err = err at *
  generalize hb0 : inB q.w (-1000000) 1000000 = b0 at *
  generalize hb1 : inB q.x (-1000000) 1000000 = b1 at *
  generalize hb2 : inB q.y (-1000000) 1000000 = b2 at *
  generalize hb3 : inB q.z (-1000000) 1000000 = b3 at *
  generalize hb4 : inB q.d 1 1000000 = b4 at *
  have c0 := within_any q.w (-1000000) 1000000
  have c1 := within_any q.x (-1000000) 1000000
  have c2 := within_any q.y (-1000000) 1000000
  have c3 := within_any q.z (-1000000) 1000000
  have c4 := within_any q.d 1 1000000
  rw [hb0] at c0; rw [hb1] at c1; rw [hb2] at c2; rw [hb3] at c3; rw [hb4] at c4
  clear hb0 hb1 hb2 hb3 hb4
  have C0 := Lib.hid c0; have C1 := Lib.hid c1; have C2 := Lib.hid c2; have C3 := Lib.hid c3; have C4 := Lib.hid c4
  clear c0 c1 c2 c3 c4
  cases b0 <;> (try cases b1) <;> (try cases b2) <;> (try cases b3) <;> (try cases b4)
  all_goals
    simp only [Bool.false_and, Bool.true_and, Bool.false_eq_true, if_false, if_true] at he
    subst he
    go_enter Tryd.func50, Tryd.ntmps50
    go_wp2
    refine wp_loop_rounds 5 ?_
    repeat any_goals (rw [rounds_succ]; go_wp2_with (first | (go_at_call 7; with_reducible refine (C0.out _).mono ?_; rintro e w' ⟨rfl, rfl⟩) | (go_at_call 7; with_reducible refine (C1.out _).mono ?_; rintro e w' ⟨rfl, rfl⟩) | (go_at_call 7; with_reducible refine (C2.out _).mono ?_; rintro e w' ⟨rfl, rfl⟩) | (go_at_call 7; with_reducible refine (C3.out _).mono ?_; rintro e w' ⟨rfl, rfl⟩) | (go_at_call 7; with_reducible refine (C4.out _).mono ?_; rintro e w' ⟨rfl, rfl⟩)))
    go_ret
    exact ⟨rfl, by (repeat (first | with_reducible assumption | with_reducible exact Below.refl _ _ | with_reducible refine Below.drewN ?_ _ | with_reducible refine Below.drew ?_ | with_reducible refine Below.alloc ?_ (by first | omega | (simp; done) | (simp; omega)) _ | with_reducible refine Below.setCell ?_ (by first | omega | (simp; done) | (simp; omega)) _ | with_reducible refine below_more _ _ ?_ (by first | omega | (simp; done) | (simp; omega))))⟩
end Go.Proofs.YthajaabgcbjfkaaDoor
