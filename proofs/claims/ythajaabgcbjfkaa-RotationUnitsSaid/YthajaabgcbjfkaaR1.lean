/- Contracts of the reference: numbers. -/
import Derived.Test.YthajaabgcbjfkaaA3
import Derived.Test.YthajaabgcbjfkaaP1
import Derived.Test.YthajaabgcbjfkaaG2
import Derived.Test.YthajaabgcbjfkaaG1
namespace Go.Proofs.Ythajaabgcbjfkaa
open Go.RowKit

def inB (n lo hi : Int) : Bool := decide (lo ≤ n ∧ n ≤ hi)
set_option maxHeartbeats 400000 in
theorem within_any (n lo hi : Int) (w : World) :
    Calls Try.prog 25 #[.int .i64 n, .int .i64 lo, .int .i64 hi] w fun e w' => e = .returned (.bool (inB n lo hi)) ∧ w = w' := by
  by_cases h : lo ≤ n
  · go_enter Try.func25, Try.ntmps25
    go_wp2
    go_ret
    refine ⟨?_, rfl⟩
    simp [inB, h]
  · have h' : n < lo := by omega
    go_enter Try.func25, Try.ntmps25
    go_wp2
    go_ret
    refine ⟨?_, rfl⟩
    simp [inB]; omega

set_option maxHeartbeats 400000 in
theorem rabs_any (a : Int) (w : World) (ha : -9223372036854775807 ≤ a) (ha2 : a ≤ 9223372036854775807) :
    Calls Try.prog 83 #[.int .i64 a] w fun e w' => e = .returned (.int .i64 ((a.natAbs : Int))) ∧ w = w' := by
  go_enter Try.func83, Try.ntmps83
  go_wp2
  all_goals (go_ret; refine ⟨?_, rfl⟩; simp; omega)

theorem mod_key (a b : Int) (hb : 1 ≤ b) : (0 ≤ a.tmod b → a.tmod b = a % b) ∧ (a.tmod b < 0 → a.tmod b + b = a % b) ∧ (-b < a.tmod b ∧ a.tmod b < b) := by
  rcases Int.le_total 0 a with h | h
  · rw [Int.tmod_eq_emod_of_nonneg h]
    have := Int.emod_nonneg a (show b ≠ 0 by omega)
    have := Int.emod_lt_of_pos a (show 0 < b by omega)
    exact ⟨fun _ => rfl, fun hh => by omega, by omega, by omega⟩
  · have e2 : a.tmod b = -((-a) % b) := by
      have : a.tmod b = -((-a).tmod b) := by rw [Int.neg_tmod, Int.neg_neg]
      rw [this, Int.tmod_eq_emod_of_nonneg (by omega)]
    have hm := Int.emod_nonneg (-a) (show b ≠ 0 by omega)
    have hm2 := Int.emod_lt_of_pos (-a) (show 0 < b by omega)
    have hd := Int.mul_ediv_add_emod (-a) b
    rw [e2]
    generalize hq : (-a) / b = q at *
    generalize hr : (-a) % b = r at *
    have e : a = -r + b * (-q) := by rw [Int.mul_neg]; omega
    refine ⟨fun hh => ?_, fun hh => ?_, by omega, by omega⟩
    · have hr0 : r = 0 := by omega
      rw [e, hr0]; simp
    · rw [show a = (b - r) + b * (-q - 1) by rw [Int.mul_sub, Int.mul_neg]; omega, Int.add_mul_emod_self_left, Int.emod_eq_of_lt (by omega) (by omega)]
      omega

set_option maxHeartbeats 400000 in
theorem rmod_in (a b : Int) (hb : 1 ≤ b) (hb2 : b ≤ 4000000000000000000) (_ha1 : -4000000000000000000 ≤ a) (_ha2 : a ≤ 4000000000000000000) (w : World) :
    Calls Try.prog 114 #[.int .i64 a, .int .i64 b] w fun e w' => e = .returned (.int .i64 (a % b)) ∧ w = w' := by
  have hb0 : ¬ b = 0 := by omega
  obtain ⟨k1, k2, k3, k4⟩ := mod_key a b hb
  have K1 := Lib.hid k1
  have K2 := Lib.hid k2
  clear k1 k2
  go_enter Try.func114, Try.ntmps114
  go_wp2
  · go_ret
    refine ⟨?_, rfl⟩
    have := K2.out (by assumption)
    simp [this]
  · go_ret
    refine ⟨?_, rfl⟩
    have := K1.out (by assumption)
    simp [this]

theorem floor_mod (a b : Int) (hb : 1 ≤ b) : (a - a % b).tdiv b = a / b := by
  have hd := Int.mul_ediv_add_emod a b
  rw [show a - a % b = b * (a / b) by omega, Int.mul_tdiv_cancel_left _ (by omega)]
set_option maxHeartbeats 400000 in
theorem rfloor_in (a b : Int) (hb : 1 ≤ b) (hb2 : b ≤ 2000000000000000000) (ha1 : -2000000000000000000 ≤ a) (ha2 : a ≤ 2000000000000000000) (w : World) :
    Calls Try.prog 71 #[.int .i64 a, .int .i64 b] w fun e w' => e = .returned (.int .i64 (a / b)) ∧ w = w' := by
  have hb0 : ¬ b = 0 := by omega
  have hm := Int.emod_nonneg a (show b ≠ 0 by omega)
  have hm2 := Int.emod_lt_of_pos a (show 0 < b by omega)
  have bd := Qt.tdiv_bd (a - a % b) b 4000000000000000000 (by omega) hb ⟨by omega, by omega⟩
  have K := Lib.hid (floor_mod a b hb)
  go_enter Try.func71, Try.ntmps71
  go_wp2_with (first | (go_at_call 114; with_reducible refine (rmod_in a b hb (by omega) (by omega) (by omega) _).mono ?_; rintro e w' ⟨rfl, rfl⟩))
  go_ret
  refine ⟨?_, rfl⟩
  have := K.out
  simp [this]

theorem igcd_step (p q : Int) : igcd q (p.tmod q) = igcd p q := by
  unfold igcd
  rw [Int.gcd_eq_natAbs_gcd_natAbs, Int.gcd_eq_natAbs_gcd_natAbs, Int.natAbs_tmod, Nat.gcd_comm, ← Nat.gcd_rec, Nat.gcd_comm]
theorem tmod_lt (p q : Int) (hq : ¬ q = 0) : (p.tmod q).natAbs < q.natAbs := by
  rw [Int.natAbs_tmod]; exact Nat.mod_lt _ (by omega)
theorem igcd_zero (p : Int) : igcd p 0 = (p.natAbs : Int) := by unfold igcd; rw [Int.gcd_zero_right]
/-- The state of the loop that Gcd is. -/
def BG (g : Int) (a b : Value) : Prop := ∃ p q : Int, a = .int .i64 p ∧ b = .int .i64 q ∧ igcd p q = g ∧ p.natAbs ≤ 4000000000000000000 ∧ q.natAbs ≤ 4000000000000000000
set_option maxHeartbeats 400000 in
theorem bgcd_in (a b : Int) (ha : a.natAbs ≤ 4000000000000000000) (hb : b.natAbs ≤ 4000000000000000000) (w : World) :
    Calls Try.prog 38 #[.int .i64 a, .int .i64 b] w fun e w' => e = .returned (.int .i64 (igcd a b)) ∧ Below w.heap.size w w' := by
  go_enter Try.func38, Try.ntmps38
  go_wp2
  go_loopw [0, 1] (fun x y wr => BG (igcd a b) x y ∧ Ext w wr) (fun _ y _ => (intOf y).natAbs)
  case atStart => exact ⟨⟨a, b, rfl, rfl, rfl, ha, hb⟩, Ext.refl _⟩
  case round =>
    obtain ⟨⟨p, q, rfl, rfl, hg, hp, hq⟩, hext⟩ := hrel
    have HG := Lib.hid hg
    clear hg
    obtain ⟨g0, rfl⟩ := more_of_below (Ext.below hext)
    clear hext
    by_cases hq0 : q = 0
    · subst hq0
      have h1 : -9223372036854775807 ≤ p := by omega
      have h2 : p ≤ 9223372036854775807 := by omega
      have h3 : ((0 : Int) != 0) = false := by decide
      go_wp2_with (first | (go_at_call 83; with_reducible refine (rabs_any p _ h1 h2).mono ?_; rintro e w' ⟨rfl, rfl⟩))
      go_ret
      exact ⟨by rw [← HG.out, igcd_zero]; rfl, by (repeat (first | with_reducible assumption | with_reducible exact Below.refl _ _ | with_reducible refine Below.drewN ?_ _ | with_reducible refine Below.drew ?_ | with_reducible refine Below.alloc ?_ (by first | omega | (simp; done) | (simp; omega)) _ | with_reducible refine Below.setCell ?_ (by first | omega | (simp; done) | (simp; omega)) _ | with_reducible refine below_more _ _ ?_ (by first | omega | (simp; done) | (simp; omega))))⟩
    · have hs := tmod_lt p q hq0
      have h1 : (q != 0) = true := by simpa using hq0
      have hs3 := hs
      rw [Int.natAbs_tmod] at hs3
      have hs1 : -4000000000000000000 ≤ p.tmod q := by omega
      have hs2 : p.tmod q ≤ 4000000000000000000 := by omega
      go_wp2
      go_region
      go_wp2
      go_roundw
      case rel => exact ⟨⟨q, p.tmod q, rfl, by first | rfl | (simp; done), by rw [igcd_step]; exact HG.out, hq, by omega⟩, ext_mk (by (repeat (first | with_reducible assumption | with_reducible exact Below.refl _ _ | with_reducible refine Below.drewN ?_ _ | with_reducible refine Below.drew ?_ | with_reducible refine Below.alloc ?_ (by first | omega | (simp; done) | (simp; omega)) _ | with_reducible refine Below.setCell ?_ (by first | omega | (simp; done) | (simp; omega)) _ | with_reducible refine below_more _ _ ?_ (by first | omega | (simp; done) | (simp; omega)))))⟩
      case measure => simp [intOf]; omega

theorem bgcd_same (a b : Int) (ha : a.natAbs ≤ 4000000000000000000) (hb : b.natAbs ≤ 4000000000000000000) : igcd a b ≤ 4000000000000000000 ∧ 0 ≤ igcd a b := by
  refine ⟨?_, igcd_nonneg _ _⟩
  unfold igcd
  rw [Int.gcd_eq_natAbs_gcd_natAbs]
  by_cases h : a = 0
  · subst h; simp; omega
  · have := Nat.gcd_le_left b.natAbs (show 0 < a.natAbs by omega); omega
end Go.Proofs.Ythajaabgcbjfkaa
