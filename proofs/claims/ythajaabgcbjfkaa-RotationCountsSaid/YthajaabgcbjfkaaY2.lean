/- Contracts: the tests of primes. -/
import Derived.Test.YthajaabgcbjfkaaY1
import Derived.Test.YthajaabgcbjfkaaA1
import Derived.Test.YthajaabgcbjfkaaBase
namespace Go.Proofs.Ythajaabgcbjfkaa
open Go.RowKit

theorem tmod_cast (a b : Nat) : (a : Int).tmod (b : Int) = ((a % b : Nat) : Int) := by
  rw [Int.tmod_eq_emod_of_nonneg (by omega)]; exact (Int.natCast_emod a b).symm
theorem tdiv_cast (a b : Nat) : (a : Int).tdiv (b : Int) = ((a / b : Nat) : Int) := by
  rw [Int.tdiv_eq_ediv_of_nonneg (by omega)]; exact (Int.natCast_ediv a b).symm

set_option maxHeartbeats 400000 in
theorem imod_in (a m : Nat) (hm : 1 ≤ m) (hm2 : m ≤ 1000000000) (ha : a ≤ 1000000000) (w : World) :
    Calls Try.prog 140 #[.int .i64 ((a : Int)), .int .i64 ((m : Int))] w fun e w' => e = .returned (.int .i64 (((a % m : Nat) : Int))) ∧ Below w.heap.size w w' := by
  have h0 : ¬ (m : Int) = 0 := by omega
  have e1 := tmod_cast a m
  have h1 : 0 ≤ (a : Int).tmod (m : Int) := by omega
  have h2 : (a : Int).tmod (m : Int) ≤ 1000000000 := by rw [e1]; have := Nat.mod_lt a (show m > 0 by omega); omega
  rw [← e1]
  clear e1
  go_enter Try.func140, Try.ntmps140
  go_wp2
  go_ret
  exact ⟨rfl, by (repeat (first | with_reducible assumption | with_reducible exact Below.refl _ _ | with_reducible refine Below.drewN ?_ _ | with_reducible refine Below.drew ?_ | with_reducible refine Below.alloc ?_ (by first | omega | (simp; done) | (simp; omega)) _ | with_reducible refine Below.setCell ?_ (by first | omega | (simp; done) | (simp; omega)) _ | with_reducible refine below_more _ _ ?_ (by first | omega | (simp; done) | (simp; omega))))⟩

theorem val2_zero (f m : Nat) (h : ¬ m % 2 = 0) : val2 f m = (0, m) := by
  cases f
  · rfl
  · simp only [val2, if_neg h]
theorem mod_num (a b : Nat) : (.int .i64 ((a : Int) % (b : Int)) : Value) = .int .i64 (((a % b : Nat) : Int)) := by rw [Int.natCast_emod]
theorem mulmod_num (a b n : Nat) : (.int .i64 ((a : Int) * (b : Int) % (n : Int)) : Value) = .int .i64 (((a * b % n : Nat) : Int)) := by rw [Int.natCast_emod, Int.natCast_mul]
theorem half_num (c : Nat) : (.int .i64 ((c : Int) / 2) : Value) = .int .i64 (((c / 2 : Nat) : Int)) := by rw [Int.natCast_ediv]; rfl
def VInv (n : Nat) (x k : Value) : Prop := ∃ f m j : Nat, x = .int .i64 ((m : Int)) ∧ k = .int .i64 ((j : Int)) ∧ 1 ≤ m ∧ m ≤ n ∧ m < 2 ^ f ∧ j + f ≤ 64 ∧ (val2 64 n).1 = j + (val2 f m).1 ∧ (val2 64 n).2 = (val2 f m).2
set_option maxHeartbeats 400000 in
theorem valuation_in (n : Nat) (hn : 1 ≤ n) (hn2 : n ≤ 1000000000) (w : World) :
    Calls Try.prog 127 #[.int .i64 ((n : Int)), .int .i64 2] w fun e w' => e = .returned (.tuple #[.int .i64 (((val2 64 n).1 : Int)), .int .i64 (((val2 64 n).2 : Int))]) ∧ Below w.heap.size w w' := by
  generalize hK : (val2 64 n).1 = K
  generalize hD : (val2 64 n).2 = D
  have HK := Lib.hid hK
  have HD := Lib.hid hD
  clear hK hD
  go_enter Try.func127, Try.ntmps127
  go_wp2
  go_loopw [0, 6] (fun x k wr => VInv n x k ∧ Ext w wr) (fun x _ _ => (intOf x).natAbs)
  case atStart => exact ⟨⟨64, n, 0, rfl, rfl, hn, Nat.le_refl _, Nat.lt_of_le_of_lt hn2 (by decide), by omega, by simp, rfl⟩, Ext.refl _⟩
  case round =>
    obtain ⟨⟨f, m, j, rfl, rfl, h1, h2, h3, h4, h5, h6⟩, hext⟩ := hrel
    obtain ⟨g0, rfl⟩ := more_of_below (Ext.below hext)
    clear hext
    have H3 := Lib.hid h3
    have H5 := Lib.hid h5
    have H6 := Lib.hid h6
    clear h3 h5 h6
    have e1 : (m : Int).tmod 2 = ((m % 2 : Nat) : Int) := tmod_cast m 2
    have e2 : (m : Int).tdiv 2 = ((m / 2 : Nat) : Int) := tdiv_cast m 2
    by_cases hm : m % 2 = 0
    · have t1 : ((m : Int).tmod 2 == 0) = true := by rw [e1, hm]; rfl
      have t3 : ((m % 2 : Int) == 0) = true := by rw [beq_iff_eq]; omega
      have t2 : (m : Int).tdiv 2 ≤ 1000000000 := by omega
      have t4 : 0 ≤ (m : Int).tdiv 2 := by omega
      have E2 := Lib.hid e2
      clear e1 e2
      go_wp2
      go_roundw
      case rel =>
        have hf : f ≠ 0 := fun e => by
          have h := H3.out; rw [e, Nat.pow_zero] at h; omega
        obtain ⟨f', rfl⟩ := Nat.exists_eq_succ_of_ne_zero hf
        have h3 := H3.out
        have h5 := H5.out
        have h6 := H6.out
        have ev : val2 (f' + 1) m = ((val2 f' (m / 2)).1 + 1, (val2 f' (m / 2)).2) := by simp only [val2, if_pos hm]
        rw [Nat.succ_eq_add_one, ev] at h5 h6
        rw [Nat.succ_eq_add_one, Nat.pow_succ] at h3
        refine ⟨⟨f', m / 2, j + 1, ?_, by go_num, by omega, by omega, by omega, by omega, by omega, h6⟩, ext_mk (by (repeat (first | with_reducible assumption | with_reducible exact Below.refl _ _ | with_reducible refine Below.drewN ?_ _ | with_reducible refine Below.drew ?_ | with_reducible refine Below.alloc ?_ (by first | omega | (simp; done) | (simp; omega)) _ | with_reducible refine Below.setCell ?_ (by first | omega | (simp; done) | (simp; omega)) _ | with_reducible refine below_more _ _ ?_ (by first | omega | (simp; done) | (simp; omega)))))⟩
        first | exact half_num m | (congr 1; exact E2.out)
      case measure => simp [intOf]; omega
    · have t1 : ((m : Int).tmod 2 == 0) = false := by rw [e1, beq_eq_false_iff_ne]; omega
      have t3 : ((m % 2 : Int) == 0) = false := by rw [beq_eq_false_iff_ne]; omega
      have h5 := H5.out
      have h6 := H6.out
      rw [val2_zero f m hm] at h5 h6
      simp only [Nat.add_zero] at h5 h6
      rw [HK.out] at h5
      rw [HD.out] at h6
      subst h5; subst h6
      clear H3 H5 H6 e1 e2
      go_wp2
      go_ret2
      exact ⟨rfl, by (repeat (first | with_reducible assumption | with_reducible exact Below.refl _ _ | with_reducible refine Below.drewN ?_ _ | with_reducible refine Below.drew ?_ | with_reducible refine Below.alloc ?_ (by first | omega | (simp; done) | (simp; omega)) _ | with_reducible refine Below.setCell ?_ (by first | omega | (simp; done) | (simp; omega)) _ | with_reducible refine below_more _ _ ?_ (by first | omega | (simp; done) | (simp; omega))))⟩

theorem pow_step {a e n o t : Nat} (h : (o * a ^ e) % n = t) : ((if e % 2 = 1 then o * a % n else o) * (a * a % n) ^ (e / 2)) % n = t := by
  have key : ∀ o, (o * (a * a % n) ^ (e / 2)) % n = (o * a ^ (2 * (e / 2))) % n := fun o => by
    rw [Nat.mul_mod, ← Nat.pow_mod, ← Nat.mul_mod, ← Nat.pow_two, ← Nat.pow_mul]
  rw [key, ← h]
  split
  · next h1 =>
    rw [Nat.mod_mul_mod, Nat.mul_assoc, Nat.mul_comm a, ← Nat.pow_succ]
    congr 3; omega
  · next h1 => congr 3; omega
theorem mulb {a b : Nat} (h1 : a ≤ 1000000000) (h2 : b ≤ 1000000000) : (0 : Int) ≤ (a : Int) * b ∧ (a : Int) * b ≤ 1000000000000000000 ∧ (a : Int) * b = ((a * b : Nat) : Int) := by
  have h := Nat.mul_le_mul h1 h2
  have e : (a : Int) * b = ((a * b : Nat) : Int) := (Int.natCast_mul ..).symm
  rw [e]; exact ⟨by omega, by omega, rfl⟩
set_option maxHeartbeats 1000000 in
theorem power_in (a e n : Nat) (hn : 1 ≤ n) (hn2 : n ≤ 1000000000) (ha : a ≤ 1000000000) (he : e ≤ 1000000000) (w : World) :
    Calls Try.prog 128 #[.int .i64 ((a : Int)), .int .i64 ((e : Int)), .int .i64 ((n : Int))] w fun e' w' => e' = .returned (.int .i64 (((a ^ e % n : Nat) : Int))) ∧ Below w.heap.size w w' := by
  have h0 : ¬ (n : Int) = 0 := by omega
  have e1 : (1 : Int).tmod (n : Int) = ((1 % n : Nat) : Int) := tmod_cast 1 n
  have l1 : 1 % n < n := Nat.mod_lt _ (by omega)
  have i1 : 0 ≤ (1 : Int).tmod (n : Int) ∧ (1 : Int).tmod (n : Int) ≤ 1000000000 := by omega
  obtain ⟨i2, i3⟩ := i1
  have M := Lib.hid (imod_in a n hn hn2 ha)
  have hs : (1 % n * (a % n) ^ e) % n = a ^ e % n := by
    rw [Nat.mod_mul_mod, Nat.one_mul, ← Nat.pow_mod]
  have HS := Lib.hid hs
  have la : a % n < n := Nat.mod_lt _ (by omega)
  generalize hT : a ^ e % n = T at *
  generalize hA : a % n = A at *
  have E1 := Lib.hid e1
  clear hs hT hA e1
  go_enter Try.func128, Try.ntmps128
  go_wp2_with (first | (go_at_call 140; with_reducible refine (M.out _).mono ?_; rintro e w1 ⟨rfl, hb1⟩; obtain ⟨g1, rfl⟩ := more_of_below hb1; clear hb1))
  go_loopw [7, 0, 1] (fun o x y wr => (∃ p b c : Nat, o = .int .i64 ((p : Int)) ∧ x = .int .i64 ((b : Int)) ∧ y = .int .i64 ((c : Int)) ∧ Hid ((p * b ^ c) % n = T) ∧ p < n ∧ b < n ∧ c ≤ 1000000000) ∧ Ext w wr) (fun _ _ y _ => (intOf y).natAbs)
  case atStart => exact ⟨⟨1 % n, A, e, by first | exact mod_num 1 n | (congr 1; exact E1.out), rfl, rfl, HS.out, l1, la, he⟩, ext_mk (by (repeat (first | with_reducible assumption | with_reducible exact Below.refl _ _ | with_reducible refine Below.drewN ?_ _ | with_reducible refine Below.drew ?_ | with_reducible refine Below.alloc ?_ (by first | omega | (simp; done) | (simp; omega)) _ | with_reducible refine Below.setCell ?_ (by first | omega | (simp; done) | (simp; omega)) _ | with_reducible refine below_more _ _ ?_ (by first | omega | (simp; done) | (simp; omega)))))⟩
  case round =>
    obtain ⟨⟨p, b, c, rfl, rfl, rfl, HT, h1, h2, h3⟩, hext⟩ := hrel
    obtain ⟨g0, rfl⟩ := more_of_below (Ext.below hext)
    clear hext
    by_cases hc : c = 0
    · subst hc
      have hp := HT.out
      rw [Nat.pow_zero, Nat.mul_one, Nat.mod_eq_of_lt h1] at hp
      subst hp
      clear HT HS M E1 i2 i3
      go_wp2
      go_ret
      exact ⟨rfl, by (repeat (first | with_reducible assumption | with_reducible exact Below.refl _ _ | with_reducible refine Below.drewN ?_ _ | with_reducible refine Below.drew ?_ | with_reducible refine Below.alloc ?_ (by first | omega | (simp; done) | (simp; omega)) _ | with_reducible refine Below.setCell ?_ (by first | omega | (simp; done) | (simp; omega)) _ | with_reducible refine below_more _ _ ?_ (by first | omega | (simp; done) | (simp; omega))))⟩
    · have d1 : (c : Int).tmod 2 = ((c % 2 : Nat) : Int) := tmod_cast c 2
      have d2 : (c : Int).tdiv 2 = ((c / 2 : Nat) : Int) := tdiv_cast c 2
      obtain ⟨m1, m2, m3⟩ := mulb (a := p) (b := b) (by omega) (by omega)
      obtain ⟨m4, m5, m6⟩ := mulb (a := b) (b := b) (by omega) (by omega)
      have q1 : ((p : Int) * b).tmod n = ((p * b % n : Nat) : Int) := by rw [m3]; exact tmod_cast _ _
      have q2 : ((b : Int) * b).tmod n = ((b * b % n : Nat) : Int) := by rw [m6]; exact tmod_cast _ _
      have r1 : p * b % n < n := Nat.mod_lt _ (by omega)
      have r2 : b * b % n < n := Nat.mod_lt _ (by omega)
      have s1 : 0 ≤ ((p : Int) * b).tmod n ∧ ((p : Int) * b).tmod n ≤ 1000000000 := by omega
      have s2 : 0 ≤ ((b : Int) * b).tmod n ∧ ((b : Int) * b).tmod n ≤ 1000000000 := by omega
      have s3 : 0 ≤ (c : Int).tdiv 2 ∧ (c : Int).tdiv 2 ≤ 1000000000 := by omega
      obtain ⟨s1, s1'⟩ := s1
      obtain ⟨s2, s2'⟩ := s2
      obtain ⟨s3, s3'⟩ := s3
      have hst := pow_step HT.out
      have kc : (0 : Int) < (c : Int) := by omega
      have D2 := Lib.hid d2
      have Q1 := Lib.hid q1
      have Q2 := Lib.hid q2
      clear q1 q2 m3 m6 HT HS M E1 i2 i3 d2
      by_cases ho : c % 2 = 1
      · have t1 : ((c : Int).tmod 2 == 1) = true := by rw [d1, ho]; rfl
        have t3 : ((c : Int) % 2 == 1) = true := by rw [beq_iff_eq]; omega
        rw [if_pos ho] at hst
        have HST := Lib.hid hst
        clear hst d1
        go_wp2
        go_roundw
        case rel => exact ⟨⟨p * b % n, b * b % n, c / 2, by first | exact mulmod_num p b n | (congr 1; exact Q1.out), by first | exact mulmod_num b b n | (congr 1; exact Q2.out), by first | exact half_num c | (congr 1; exact D2.out), HST.out, r1, r2, by omega⟩, ext_mk (by (repeat (first | with_reducible assumption | with_reducible exact Below.refl _ _ | with_reducible refine Below.drewN ?_ _ | with_reducible refine Below.drew ?_ | with_reducible refine Below.alloc ?_ (by first | omega | (simp; done) | (simp; omega)) _ | with_reducible refine Below.setCell ?_ (by first | omega | (simp; done) | (simp; omega)) _ | with_reducible refine below_more _ _ ?_ (by first | omega | (simp; done) | (simp; omega)))))⟩
        case measure => simp [intOf]; omega
      · have t1 : ((c : Int).tmod 2 == 1) = false := by rw [d1, beq_eq_false_iff_ne]; omega
        have t3 : ((c : Int) % 2 == 1) = false := by rw [beq_eq_false_iff_ne]; omega
        rw [if_neg ho] at hst
        have HST := Lib.hid hst
        clear hst d1
        go_wp2
        go_roundw
        case rel => exact ⟨⟨p, b * b % n, c / 2, rfl, by first | exact mulmod_num b b n | (congr 1; exact Q2.out), by first | exact half_num c | (congr 1; exact D2.out), HST.out, h1, r2, by omega⟩, ext_mk (by (repeat (first | with_reducible assumption | with_reducible exact Below.refl _ _ | with_reducible refine Below.drewN ?_ _ | with_reducible refine Below.drew ?_ | with_reducible refine Below.alloc ?_ (by first | omega | (simp; done) | (simp; omega)) _ | with_reducible refine Below.setCell ?_ (by first | omega | (simp; done) | (simp; omega)) _ | with_reducible refine below_more _ _ ?_ (by first | omega | (simp; done) | (simp; omega)))))⟩
        case measure => simp [intOf]; omega

theorem val2_pos {f m : Nat} (hf : 1 ≤ f) (h : m % 2 = 0) : 1 ≤ (val2 f m).1 := by
  cases f
  · omega
  · simp only [val2, if_pos h]; omega
theorem val2_le : ∀ (f m : Nat), (val2 f m).1 ≤ f ∧ (val2 f m).2 ≤ m
  | 0, m => ⟨Nat.le_refl _, Nat.le_refl _⟩
  | f + 1, m => by
    have := val2_le f (m / 2)
    simp only [val2]
    split
    · exact ⟨by omega, by simp only; omega⟩
    · exact ⟨by omega, Nat.le_refl _⟩
set_option maxHeartbeats 1000000 in
theorem witness_in (a n : Nat) (ha : a ≤ 7) (hn : 3 ≤ n) (hn2 : n ≤ 1000000000) (ho : n % 2 = 1) (w : World) :
    Calls Try.prog 123 #[.int .i64 ((a : Int)), .int .i64 ((n : Int))] w fun e w' => e = .returned (.bool (!strong a n)) ∧ Below w.heap.size w w' := by
  have V := valuation_in (n - 1) (by omega) (by omega)
  have l1 := val2_le 64 (n - 1)
  have l2 := val2_pos (f := 64) (m := n - 1) (by omega) (by omega)
  have P := power_in a (val2 64 (n - 1)).2 n (by omega) hn2 (by omega) (by omega)
  have en : ((n - 1 : Nat) : Int) = (n : Int) - 1 := by omega
  rw [en] at V
  have hS : strong a n = (Nat.beq (a ^ (val2 64 (n - 1)).2 % n) 1 || (Nat.beq (a ^ (val2 64 (n - 1)).2 % n) (n - 1) || sqs n ((val2 64 (n - 1)).1 - 1) (a ^ (val2 64 (n - 1)).2 % n))) := rfl
  have lx : a ^ (val2 64 (n - 1)).2 % n < n := Nat.mod_lt _ (by omega)
  generalize a ^ (val2 64 (n - 1)).2 % n = X at *
  generalize (val2 64 (n - 1)).2 = D at *
  generalize (val2 64 (n - 1)).1 = K at *
  generalize strong a n = S at *
  obtain ⟨l1, _⟩ := l1
  have HV := Lib.hid V
  have HP := Lib.hid P
  have HS := Lib.hid hS
  clear V P hS
  have c1 : ((X : Int) == 1) = Nat.beq X 1 := by
    rw [Bool.eq_iff_iff, beq_iff_eq, Nat.beq_eq]; omega
  have c2 : ((X : Int) == (n : Int) - 1) = Nat.beq X (n - 1) := by
    rw [Bool.eq_iff_iff, beq_iff_eq, Nat.beq_eq]; omega
  by_cases h1 : X = 1
  · have hs : S = true := by rw [HS.out, h1]; rfl
    subst hs; subst h1
    clear c1 c2 HS
    go_enter Try.func123, Try.ntmps123
    go_wp2_with (first | (go_at_call 127; with_reducible refine (HV.out _).mono ?_; rintro e w1 ⟨rfl, hb1⟩; obtain ⟨g1, rfl⟩ := more_of_below hb1; clear hb1) | (go_at_call 128; with_reducible refine (HP.out _).mono ?_; rintro e w2 ⟨rfl, hb2⟩; obtain ⟨g2, rfl⟩ := more_of_below hb2; clear hb2))
    go_ret
    exact ⟨rfl, by (repeat (first | with_reducible assumption | with_reducible exact Below.refl _ _ | with_reducible refine Below.drewN ?_ _ | with_reducible refine Below.drew ?_ | with_reducible refine Below.alloc ?_ (by first | omega | (simp; done) | (simp; omega)) _ | with_reducible refine Below.setCell ?_ (by first | omega | (simp; done) | (simp; omega)) _ | with_reducible refine below_more _ _ ?_ (by first | omega | (simp; done) | (simp; omega))))⟩
  by_cases h2 : X = n - 1
  · have hs : S = true := by rw [HS.out, h2, Nat.beq_refl, Bool.true_or, Bool.or_true]
    subst hs
    have k1 : ((X : Int) == 1) = false := by rw [beq_eq_false_iff_ne]; omega
    have k2 : ((X : Int) == (n : Int) - 1) = true := by rw [beq_iff_eq]; omega
    clear c1 c2 HS
    go_enter Try.func123, Try.ntmps123
    go_wp2_with (first | (go_at_call 127; with_reducible refine (HV.out _).mono ?_; rintro e w1 ⟨rfl, hb1⟩; obtain ⟨g1, rfl⟩ := more_of_below hb1; clear hb1) | (go_at_call 128; with_reducible refine (HP.out _).mono ?_; rintro e w2 ⟨rfl, hb2⟩; obtain ⟨g2, rfl⟩ := more_of_below hb2; clear hb2))
    go_ret
    exact ⟨rfl, by (repeat (first | with_reducible assumption | with_reducible exact Below.refl _ _ | with_reducible refine Below.drewN ?_ _ | with_reducible refine Below.drew ?_ | with_reducible refine Below.alloc ?_ (by first | omega | (simp; done) | (simp; omega)) _ | with_reducible refine Below.setCell ?_ (by first | omega | (simp; done) | (simp; omega)) _ | with_reducible refine below_more _ _ ?_ (by first | omega | (simp; done) | (simp; omega))))⟩
  have k1 : ((X : Int) == 1) = false := by rw [beq_eq_false_iff_ne]; omega
  have k2 : ((X : Int) == (n : Int) - 1) = false := by rw [beq_eq_false_iff_ne]; omega
  have hs : S = sqs n (K - 1) X := by rw [HS.out, beqf h1, beqf h2, Bool.false_or, Bool.false_or]
  have HS2 := Lib.hid hs
  clear c1 c2 HS hs
  go_enter Try.func123, Try.ntmps123
  go_wp2_with (first | (go_at_call 127; with_reducible refine (HV.out _).mono ?_; rintro e w1 ⟨rfl, hb1⟩; obtain ⟨g1, rfl⟩ := more_of_below hb1; clear hb1) | (go_at_call 128; with_reducible refine (HP.out _).mono ?_; rintro e w2 ⟨rfl, hb2⟩; obtain ⟨g2, rfl⟩ := more_of_below hb2; clear hb2))
  clear k1 k2
  go_loopw [7, 28] (fun x i wr => (∃ b c : Nat, x = .int .i64 ((b : Int)) ∧ i = .int .i64 ((c : Int)) ∧ Hid (S = sqs n (K - 1 - c) b) ∧ b < n ∧ c ≤ K - 1) ∧ Ext w wr) (fun _ i _ => 64 - (intOf i).natAbs)
  case atStart => exact ⟨⟨X, 0, rfl, rfl, HS2.out, lx, by omega⟩, ext_mk (by (repeat (first | with_reducible assumption | with_reducible exact Below.refl _ _ | with_reducible refine Below.drewN ?_ _ | with_reducible refine Below.drew ?_ | with_reducible refine Below.alloc ?_ (by first | omega | (simp; done) | (simp; omega)) _ | with_reducible refine Below.setCell ?_ (by first | omega | (simp; done) | (simp; omega)) _ | with_reducible refine below_more _ _ ?_ (by first | omega | (simp; done) | (simp; omega)))))⟩
  case round =>
    obtain ⟨⟨b, c, rfl, rfl, HT, h3, h4⟩, hext⟩ := hrel
    obtain ⟨g0, rfl⟩ := more_of_below (Ext.below hext)
    clear hext HS2
    by_cases hc : c < K - 1
    · obtain ⟨m4, m5, m6⟩ := mulb (a := b) (b := b) (by omega) (by omega)
      have q2 : ((b : Int) * b).tmod n = ((b * b % n : Nat) : Int) := by rw [m6]; exact tmod_cast _ _
      have r2 : b * b % n < n := Nat.mod_lt _ (by omega)
      have s2 : 0 ≤ ((b : Int) * b).tmod n ∧ ((b : Int) * b).tmod n ≤ 1000000000 := by omega
      obtain ⟨s2, s2'⟩ := s2
      have ht := HT.out
      have ek : K - 1 - c = (K - 1 - (c + 1)) + 1 := by omega
      rw [ek] at ht
      have es : sqs n (K - 1 - (c + 1) + 1) b = (Nat.beq (b * b % n) (n - 1) || sqs n (K - 1 - (c + 1)) (b * b % n)) := rfl
      rw [es] at ht
      have n0 : ¬ (n : Int) = 0 := by omega
      have kc : (c : Int) < (K : Int) - 1 := by omega
      by_cases hb : b * b % n = n - 1
      · have hs : S = true := by rw [ht, hb, Nat.beq_refl, Bool.true_or]
        subst hs
        have z1 : (((b : Int) * b).tmod n == (n : Int) - 1) = true := by rw [beq_iff_eq]; omega
        have z2 : ((b : Int) * b % n == (n : Int) - 1) = true := by rw [m6, beq_iff_eq, ← Int.natCast_emod]; omega
        clear HT ht q2 m6
        go_wp2
        go_ret
        exact ⟨rfl, by (repeat (first | with_reducible assumption | with_reducible exact Below.refl _ _ | with_reducible refine Below.drewN ?_ _ | with_reducible refine Below.drew ?_ | with_reducible refine Below.alloc ?_ (by first | omega | (simp; done) | (simp; omega)) _ | with_reducible refine Below.setCell ?_ (by first | omega | (simp; done) | (simp; omega)) _ | with_reducible refine below_more _ _ ?_ (by first | omega | (simp; done) | (simp; omega))))⟩
      · rw [beqf hb, Bool.false_or] at ht
        have HT2 := Lib.hid ht
        have z1 : (((b : Int) * b).tmod n == (n : Int) - 1) = false := by rw [beq_eq_false_iff_ne]; omega
        have z2 : ((b : Int) * b % n == (n : Int) - 1) = false := by rw [m6, beq_eq_false_iff_ne, ← Int.natCast_emod]; omega
        have Q2 := Lib.hid q2
        clear HT ht q2 m6
        go_wp2
        go_roundw
        case rel => exact ⟨⟨b * b % n, c + 1, by first | exact mulmod_num b b n | (congr 1; exact Q2.out), by go_num, HT2.out, r2, by omega⟩, ext_mk (by (repeat (first | with_reducible assumption | with_reducible exact Below.refl _ _ | with_reducible refine Below.drewN ?_ _ | with_reducible refine Below.drew ?_ | with_reducible refine Below.alloc ?_ (by first | omega | (simp; done) | (simp; omega)) _ | with_reducible refine Below.setCell ?_ (by first | omega | (simp; done) | (simp; omega)) _ | with_reducible refine below_more _ _ ?_ (by first | omega | (simp; done) | (simp; omega)))))⟩
        case measure => simp [intOf]; omega
    · have ht := HT.out
      rw [show K - 1 - c = 0 by omega] at ht
      have hs : S = false := ht
      subst hs
      have kc : ¬ (c : Int) < (K : Int) - 1 := by omega
      clear HT ht
      go_wp2
      go_ret
      exact ⟨rfl, by (repeat (first | with_reducible assumption | with_reducible exact Below.refl _ _ | with_reducible refine Below.drewN ?_ _ | with_reducible refine Below.drew ?_ | with_reducible refine Below.alloc ?_ (by first | omega | (simp; done) | (simp; omega)) _ | with_reducible refine Below.setCell ?_ (by first | omega | (simp; done) | (simp; omega)) _ | with_reducible refine below_more _ _ ?_ (by first | omega | (simp; done) | (simp; omega))))⟩

-- leaves
set_option maxRecDepth 10000 in
set_option maxHeartbeats 1000000 in
theorem isPrime_lt (n : Int) (_hn2 : n ≤ 1000000000) (h : n < 2) (w : World) :
    Calls Try.prog 102 #[.int .i64 n] w fun e w' => e = .returned (.bool false) ∧ Below w.heap.size w w' := by
  have k0 : ∀ (w : World), (Instr.index 31 (.agg #[.int .i64 2, .int .i64 3, .int .i64 5, .int .i64 7]) (.int .i64 0)).run Try.prog w = .ok (.int .i64 2) w := fun _ => by kernel_rfl
  have k1 : ∀ (w : World), (Instr.index 31 (.agg #[.int .i64 2, .int .i64 3, .int .i64 5, .int .i64 7]) (.int .i64 1)).run Try.prog w = .ok (.int .i64 3) w := fun _ => by kernel_rfl
  have k2 : ∀ (w : World), (Instr.index 31 (.agg #[.int .i64 2, .int .i64 3, .int .i64 5, .int .i64 7]) (.int .i64 2)).run Try.prog w = .ok (.int .i64 5) w := fun _ => by kernel_rfl
  have k3 : ∀ (w : World), (Instr.index 31 (.agg #[.int .i64 2, .int .i64 3, .int .i64 5, .int .i64 7]) (.int .i64 3)).run Try.prog w = .ok (.int .i64 7) w := fun _ => by kernel_rfl
  go_enter Try.func102, Try.ntmps102
  go_wp2
  go_ret
  exact ⟨rfl, by (repeat (first | with_reducible assumption | with_reducible exact Below.refl _ _ | with_reducible refine Below.drewN ?_ _ | with_reducible refine Below.drew ?_ | with_reducible refine Below.alloc ?_ (by first | omega | (simp; done) | (simp; omega)) _ | with_reducible refine Below.setCell ?_ (by first | omega | (simp; done) | (simp; omega)) _ | with_reducible refine below_more _ _ ?_ (by first | omega | (simp; done) | (simp; omega))))⟩
set_option maxRecDepth 10000 in
set_option maxHeartbeats 1000000 in
theorem isPrime_e2 (n : Int) (hn2 : n ≤ 1000000000) (h2 : 2 ≤ n) (e2 : (n == 2) = true) (w : World) :
    Calls Try.prog 102 #[.int .i64 n] w fun e w' => e = .returned (.bool true) ∧ Below w.heap.size w w' := by
  have k0 : ∀ (w : World), (Instr.index 31 (.agg #[.int .i64 2, .int .i64 3, .int .i64 5, .int .i64 7]) (.int .i64 0)).run Try.prog w = .ok (.int .i64 2) w := fun _ => by kernel_rfl
  have k1 : ∀ (w : World), (Instr.index 31 (.agg #[.int .i64 2, .int .i64 3, .int .i64 5, .int .i64 7]) (.int .i64 1)).run Try.prog w = .ok (.int .i64 3) w := fun _ => by kernel_rfl
  have k2 : ∀ (w : World), (Instr.index 31 (.agg #[.int .i64 2, .int .i64 3, .int .i64 5, .int .i64 7]) (.int .i64 2)).run Try.prog w = .ok (.int .i64 5) w := fun _ => by kernel_rfl
  have k3 : ∀ (w : World), (Instr.index 31 (.agg #[.int .i64 2, .int .i64 3, .int .i64 5, .int .i64 7]) (.int .i64 3)).run Try.prog w = .ok (.int .i64 7) w := fun _ => by kernel_rfl
  go_enter Try.func102, Try.ntmps102
  go_wp2
  refine wp_loop_rounds 1 ?_
  rw [rounds_succ]
  go_wp2
  go_ret
  exact ⟨rfl, by (repeat (first | with_reducible assumption | with_reducible exact Below.refl _ _ | with_reducible refine Below.drewN ?_ _ | with_reducible refine Below.drew ?_ | with_reducible refine Below.alloc ?_ (by first | omega | (simp; done) | (simp; omega)) _ | with_reducible refine Below.setCell ?_ (by first | omega | (simp; done) | (simp; omega)) _ | with_reducible refine below_more _ _ ?_ (by first | omega | (simp; done) | (simp; omega))))⟩
set_option maxRecDepth 10000 in
set_option maxHeartbeats 1000000 in
theorem isPrime_m2 (n : Int) (hn2 : n ≤ 1000000000) (h2 : 2 ≤ n) (e2 : (n == 2) = false) (z2 : (n % 2 == 0) = true) (w : World) :
    Calls Try.prog 102 #[.int .i64 n] w fun e w' => e = .returned (.bool false) ∧ Below w.heap.size w w' := by
  have k0 : ∀ (w : World), (Instr.index 31 (.agg #[.int .i64 2, .int .i64 3, .int .i64 5, .int .i64 7]) (.int .i64 0)).run Try.prog w = .ok (.int .i64 2) w := fun _ => by kernel_rfl
  have k1 : ∀ (w : World), (Instr.index 31 (.agg #[.int .i64 2, .int .i64 3, .int .i64 5, .int .i64 7]) (.int .i64 1)).run Try.prog w = .ok (.int .i64 3) w := fun _ => by kernel_rfl
  have k2 : ∀ (w : World), (Instr.index 31 (.agg #[.int .i64 2, .int .i64 3, .int .i64 5, .int .i64 7]) (.int .i64 2)).run Try.prog w = .ok (.int .i64 5) w := fun _ => by kernel_rfl
  have k3 : ∀ (w : World), (Instr.index 31 (.agg #[.int .i64 2, .int .i64 3, .int .i64 5, .int .i64 7]) (.int .i64 3)).run Try.prog w = .ok (.int .i64 7) w := fun _ => by kernel_rfl
  go_enter Try.func102, Try.ntmps102
  go_wp2
  refine wp_loop_rounds 1 ?_
  rw [rounds_succ]
  go_wp2
  go_ret
  exact ⟨rfl, by (repeat (first | with_reducible assumption | with_reducible exact Below.refl _ _ | with_reducible refine Below.drewN ?_ _ | with_reducible refine Below.drew ?_ | with_reducible refine Below.alloc ?_ (by first | omega | (simp; done) | (simp; omega)) _ | with_reducible refine Below.setCell ?_ (by first | omega | (simp; done) | (simp; omega)) _ | with_reducible refine below_more _ _ ?_ (by first | omega | (simp; done) | (simp; omega))))⟩
set_option maxRecDepth 10000 in
set_option maxHeartbeats 1000000 in
theorem isPrime_w2 (n : Int) (hn2 : n ≤ 1000000000) (h2 : 2 ≤ n) (e2 : (n == 2) = false) (z2 : (n % 2 == 0) = false) (W2 : ∀ w, Calls Try.prog 123 #[.int .i64 2, .int .i64 n] w fun e w' => e = .returned (.bool true) ∧ Below w.heap.size w w') (w : World) :
    Calls Try.prog 102 #[.int .i64 n] w fun e w' => e = .returned (.bool false) ∧ Below w.heap.size w w' := by
  have k0 : ∀ (w : World), (Instr.index 31 (.agg #[.int .i64 2, .int .i64 3, .int .i64 5, .int .i64 7]) (.int .i64 0)).run Try.prog w = .ok (.int .i64 2) w := fun _ => by kernel_rfl
  have k1 : ∀ (w : World), (Instr.index 31 (.agg #[.int .i64 2, .int .i64 3, .int .i64 5, .int .i64 7]) (.int .i64 1)).run Try.prog w = .ok (.int .i64 3) w := fun _ => by kernel_rfl
  have k2 : ∀ (w : World), (Instr.index 31 (.agg #[.int .i64 2, .int .i64 3, .int .i64 5, .int .i64 7]) (.int .i64 2)).run Try.prog w = .ok (.int .i64 5) w := fun _ => by kernel_rfl
  have k3 : ∀ (w : World), (Instr.index 31 (.agg #[.int .i64 2, .int .i64 3, .int .i64 5, .int .i64 7]) (.int .i64 3)).run Try.prog w = .ok (.int .i64 7) w := fun _ => by kernel_rfl
  go_enter Try.func102, Try.ntmps102
  go_wp2
  refine wp_loop_rounds 1 ?_
  rw [rounds_succ]
  go_wp2_with (first | (go_at_call 123; first | ((with_reducible refine (W2 _).mono ?_); rintro e w2 ⟨rfl, hb2⟩; obtain ⟨g2, rfl⟩ := more_of_below hb2; clear hb2)))
  go_ret
  exact ⟨rfl, by (repeat (first | with_reducible assumption | with_reducible exact Below.refl _ _ | with_reducible refine Below.drewN ?_ _ | with_reducible refine Below.drew ?_ | with_reducible refine Below.alloc ?_ (by first | omega | (simp; done) | (simp; omega)) _ | with_reducible refine Below.setCell ?_ (by first | omega | (simp; done) | (simp; omega)) _ | with_reducible refine below_more _ _ ?_ (by first | omega | (simp; done) | (simp; omega))))⟩
set_option maxRecDepth 10000 in
set_option maxHeartbeats 1000000 in
theorem isPrime_e3 (n : Int) (hn2 : n ≤ 1000000000) (h2 : 2 ≤ n) (e2 : (n == 2) = false) (z2 : (n % 2 == 0) = false) (W2 : ∀ w, Calls Try.prog 123 #[.int .i64 2, .int .i64 n] w fun e w' => e = .returned (.bool false) ∧ Below w.heap.size w w') (e3 : (n == 3) = true) (w : World) :
    Calls Try.prog 102 #[.int .i64 n] w fun e w' => e = .returned (.bool true) ∧ Below w.heap.size w w' := by
  have k0 : ∀ (w : World), (Instr.index 31 (.agg #[.int .i64 2, .int .i64 3, .int .i64 5, .int .i64 7]) (.int .i64 0)).run Try.prog w = .ok (.int .i64 2) w := fun _ => by kernel_rfl
  have k1 : ∀ (w : World), (Instr.index 31 (.agg #[.int .i64 2, .int .i64 3, .int .i64 5, .int .i64 7]) (.int .i64 1)).run Try.prog w = .ok (.int .i64 3) w := fun _ => by kernel_rfl
  have k2 : ∀ (w : World), (Instr.index 31 (.agg #[.int .i64 2, .int .i64 3, .int .i64 5, .int .i64 7]) (.int .i64 2)).run Try.prog w = .ok (.int .i64 5) w := fun _ => by kernel_rfl
  have k3 : ∀ (w : World), (Instr.index 31 (.agg #[.int .i64 2, .int .i64 3, .int .i64 5, .int .i64 7]) (.int .i64 3)).run Try.prog w = .ok (.int .i64 7) w := fun _ => by kernel_rfl
  go_enter Try.func102, Try.ntmps102
  go_wp2
  refine wp_loop_rounds 2 ?_
  rw [rounds_succ]
  go_wp2_with (first | (go_at_call 123; first | ((with_reducible refine (W2 _).mono ?_); rintro e w2 ⟨rfl, hb2⟩; obtain ⟨g2, rfl⟩ := more_of_below hb2; clear hb2)))
  rw [rounds_succ]
  go_wp2_with (first | (go_at_call 123; first | ((with_reducible refine (W2 _).mono ?_); rintro e w2 ⟨rfl, hb2⟩; obtain ⟨g2, rfl⟩ := more_of_below hb2; clear hb2)))
  go_ret
  exact ⟨rfl, by (repeat (first | with_reducible assumption | with_reducible exact Below.refl _ _ | with_reducible refine Below.drewN ?_ _ | with_reducible refine Below.drew ?_ | with_reducible refine Below.alloc ?_ (by first | omega | (simp; done) | (simp; omega)) _ | with_reducible refine Below.setCell ?_ (by first | omega | (simp; done) | (simp; omega)) _ | with_reducible refine below_more _ _ ?_ (by first | omega | (simp; done) | (simp; omega))))⟩
set_option maxRecDepth 10000 in
set_option maxHeartbeats 1000000 in
theorem isPrime_m3 (n : Int) (hn2 : n ≤ 1000000000) (h2 : 2 ≤ n) (e2 : (n == 2) = false) (z2 : (n % 2 == 0) = false) (W2 : ∀ w, Calls Try.prog 123 #[.int .i64 2, .int .i64 n] w fun e w' => e = .returned (.bool false) ∧ Below w.heap.size w w') (e3 : (n == 3) = false) (z3 : (n % 3 == 0) = true) (w : World) :
    Calls Try.prog 102 #[.int .i64 n] w fun e w' => e = .returned (.bool false) ∧ Below w.heap.size w w' := by
  have k0 : ∀ (w : World), (Instr.index 31 (.agg #[.int .i64 2, .int .i64 3, .int .i64 5, .int .i64 7]) (.int .i64 0)).run Try.prog w = .ok (.int .i64 2) w := fun _ => by kernel_rfl
  have k1 : ∀ (w : World), (Instr.index 31 (.agg #[.int .i64 2, .int .i64 3, .int .i64 5, .int .i64 7]) (.int .i64 1)).run Try.prog w = .ok (.int .i64 3) w := fun _ => by kernel_rfl
  have k2 : ∀ (w : World), (Instr.index 31 (.agg #[.int .i64 2, .int .i64 3, .int .i64 5, .int .i64 7]) (.int .i64 2)).run Try.prog w = .ok (.int .i64 5) w := fun _ => by kernel_rfl
  have k3 : ∀ (w : World), (Instr.index 31 (.agg #[.int .i64 2, .int .i64 3, .int .i64 5, .int .i64 7]) (.int .i64 3)).run Try.prog w = .ok (.int .i64 7) w := fun _ => by kernel_rfl
  go_enter Try.func102, Try.ntmps102
  go_wp2
  refine wp_loop_rounds 2 ?_
  rw [rounds_succ]
  go_wp2_with (first | (go_at_call 123; first | ((with_reducible refine (W2 _).mono ?_); rintro e w2 ⟨rfl, hb2⟩; obtain ⟨g2, rfl⟩ := more_of_below hb2; clear hb2)))
  rw [rounds_succ]
  go_wp2_with (first | (go_at_call 123; first | ((with_reducible refine (W2 _).mono ?_); rintro e w2 ⟨rfl, hb2⟩; obtain ⟨g2, rfl⟩ := more_of_below hb2; clear hb2)))
  go_ret
  exact ⟨rfl, by (repeat (first | with_reducible assumption | with_reducible exact Below.refl _ _ | with_reducible refine Below.drewN ?_ _ | with_reducible refine Below.drew ?_ | with_reducible refine Below.alloc ?_ (by first | omega | (simp; done) | (simp; omega)) _ | with_reducible refine Below.setCell ?_ (by first | omega | (simp; done) | (simp; omega)) _ | with_reducible refine below_more _ _ ?_ (by first | omega | (simp; done) | (simp; omega))))⟩
set_option maxRecDepth 10000 in
set_option maxHeartbeats 1000000 in
theorem isPrime_w3 (n : Int) (hn2 : n ≤ 1000000000) (h2 : 2 ≤ n) (e2 : (n == 2) = false) (z2 : (n % 2 == 0) = false) (W2 : ∀ w, Calls Try.prog 123 #[.int .i64 2, .int .i64 n] w fun e w' => e = .returned (.bool false) ∧ Below w.heap.size w w') (e3 : (n == 3) = false) (z3 : (n % 3 == 0) = false) (W3 : ∀ w, Calls Try.prog 123 #[.int .i64 3, .int .i64 n] w fun e w' => e = .returned (.bool true) ∧ Below w.heap.size w w') (w : World) :
    Calls Try.prog 102 #[.int .i64 n] w fun e w' => e = .returned (.bool false) ∧ Below w.heap.size w w' := by
  have k0 : ∀ (w : World), (Instr.index 31 (.agg #[.int .i64 2, .int .i64 3, .int .i64 5, .int .i64 7]) (.int .i64 0)).run Try.prog w = .ok (.int .i64 2) w := fun _ => by kernel_rfl
  have k1 : ∀ (w : World), (Instr.index 31 (.agg #[.int .i64 2, .int .i64 3, .int .i64 5, .int .i64 7]) (.int .i64 1)).run Try.prog w = .ok (.int .i64 3) w := fun _ => by kernel_rfl
  have k2 : ∀ (w : World), (Instr.index 31 (.agg #[.int .i64 2, .int .i64 3, .int .i64 5, .int .i64 7]) (.int .i64 2)).run Try.prog w = .ok (.int .i64 5) w := fun _ => by kernel_rfl
  have k3 : ∀ (w : World), (Instr.index 31 (.agg #[.int .i64 2, .int .i64 3, .int .i64 5, .int .i64 7]) (.int .i64 3)).run Try.prog w = .ok (.int .i64 7) w := fun _ => by kernel_rfl
  go_enter Try.func102, Try.ntmps102
  go_wp2
  refine wp_loop_rounds 2 ?_
  rw [rounds_succ]
  go_wp2_with (first | (go_at_call 123; first | ((with_reducible refine (W2 _).mono ?_); rintro e w2 ⟨rfl, hb2⟩; obtain ⟨g2, rfl⟩ := more_of_below hb2; clear hb2) | ((with_reducible refine (W3 _).mono ?_); rintro e w3 ⟨rfl, hb3⟩; obtain ⟨g3, rfl⟩ := more_of_below hb3; clear hb3)))
  rw [rounds_succ]
  go_wp2_with (first | (go_at_call 123; first | ((with_reducible refine (W2 _).mono ?_); rintro e w2 ⟨rfl, hb2⟩; obtain ⟨g2, rfl⟩ := more_of_below hb2; clear hb2) | ((with_reducible refine (W3 _).mono ?_); rintro e w3 ⟨rfl, hb3⟩; obtain ⟨g3, rfl⟩ := more_of_below hb3; clear hb3)))
  go_ret
  exact ⟨rfl, by (repeat (first | with_reducible assumption | with_reducible exact Below.refl _ _ | with_reducible refine Below.drewN ?_ _ | with_reducible refine Below.drew ?_ | with_reducible refine Below.alloc ?_ (by first | omega | (simp; done) | (simp; omega)) _ | with_reducible refine Below.setCell ?_ (by first | omega | (simp; done) | (simp; omega)) _ | with_reducible refine below_more _ _ ?_ (by first | omega | (simp; done) | (simp; omega))))⟩
set_option maxRecDepth 10000 in
set_option maxHeartbeats 1000000 in
theorem isPrime_e5 (n : Int) (hn2 : n ≤ 1000000000) (h2 : 2 ≤ n) (e2 : (n == 2) = false) (z2 : (n % 2 == 0) = false) (W2 : ∀ w, Calls Try.prog 123 #[.int .i64 2, .int .i64 n] w fun e w' => e = .returned (.bool false) ∧ Below w.heap.size w w') (e3 : (n == 3) = false) (z3 : (n % 3 == 0) = false) (W3 : ∀ w, Calls Try.prog 123 #[.int .i64 3, .int .i64 n] w fun e w' => e = .returned (.bool false) ∧ Below w.heap.size w w') (e5 : (n == 5) = true) (w : World) :
    Calls Try.prog 102 #[.int .i64 n] w fun e w' => e = .returned (.bool true) ∧ Below w.heap.size w w' := by
  have k0 : ∀ (w : World), (Instr.index 31 (.agg #[.int .i64 2, .int .i64 3, .int .i64 5, .int .i64 7]) (.int .i64 0)).run Try.prog w = .ok (.int .i64 2) w := fun _ => by kernel_rfl
  have k1 : ∀ (w : World), (Instr.index 31 (.agg #[.int .i64 2, .int .i64 3, .int .i64 5, .int .i64 7]) (.int .i64 1)).run Try.prog w = .ok (.int .i64 3) w := fun _ => by kernel_rfl
  have k2 : ∀ (w : World), (Instr.index 31 (.agg #[.int .i64 2, .int .i64 3, .int .i64 5, .int .i64 7]) (.int .i64 2)).run Try.prog w = .ok (.int .i64 5) w := fun _ => by kernel_rfl
  have k3 : ∀ (w : World), (Instr.index 31 (.agg #[.int .i64 2, .int .i64 3, .int .i64 5, .int .i64 7]) (.int .i64 3)).run Try.prog w = .ok (.int .i64 7) w := fun _ => by kernel_rfl
  go_enter Try.func102, Try.ntmps102
  go_wp2
  refine wp_loop_rounds 3 ?_
  rw [rounds_succ]
  go_wp2_with (first | (go_at_call 123; first | ((with_reducible refine (W2 _).mono ?_); rintro e w2 ⟨rfl, hb2⟩; obtain ⟨g2, rfl⟩ := more_of_below hb2; clear hb2) | ((with_reducible refine (W3 _).mono ?_); rintro e w3 ⟨rfl, hb3⟩; obtain ⟨g3, rfl⟩ := more_of_below hb3; clear hb3)))
  rw [rounds_succ]
  go_wp2_with (first | (go_at_call 123; first | ((with_reducible refine (W2 _).mono ?_); rintro e w2 ⟨rfl, hb2⟩; obtain ⟨g2, rfl⟩ := more_of_below hb2; clear hb2) | ((with_reducible refine (W3 _).mono ?_); rintro e w3 ⟨rfl, hb3⟩; obtain ⟨g3, rfl⟩ := more_of_below hb3; clear hb3)))
  rw [rounds_succ]
  go_wp2_with (first | (go_at_call 123; first | ((with_reducible refine (W2 _).mono ?_); rintro e w2 ⟨rfl, hb2⟩; obtain ⟨g2, rfl⟩ := more_of_below hb2; clear hb2) | ((with_reducible refine (W3 _).mono ?_); rintro e w3 ⟨rfl, hb3⟩; obtain ⟨g3, rfl⟩ := more_of_below hb3; clear hb3)))
  go_ret
  exact ⟨rfl, by (repeat (first | with_reducible assumption | with_reducible exact Below.refl _ _ | with_reducible refine Below.drewN ?_ _ | with_reducible refine Below.drew ?_ | with_reducible refine Below.alloc ?_ (by first | omega | (simp; done) | (simp; omega)) _ | with_reducible refine Below.setCell ?_ (by first | omega | (simp; done) | (simp; omega)) _ | with_reducible refine below_more _ _ ?_ (by first | omega | (simp; done) | (simp; omega))))⟩
set_option maxRecDepth 10000 in
set_option maxHeartbeats 1000000 in
theorem isPrime_m5 (n : Int) (hn2 : n ≤ 1000000000) (h2 : 2 ≤ n) (e2 : (n == 2) = false) (z2 : (n % 2 == 0) = false) (W2 : ∀ w, Calls Try.prog 123 #[.int .i64 2, .int .i64 n] w fun e w' => e = .returned (.bool false) ∧ Below w.heap.size w w') (e3 : (n == 3) = false) (z3 : (n % 3 == 0) = false) (W3 : ∀ w, Calls Try.prog 123 #[.int .i64 3, .int .i64 n] w fun e w' => e = .returned (.bool false) ∧ Below w.heap.size w w') (e5 : (n == 5) = false) (z5 : (n % 5 == 0) = true) (w : World) :
    Calls Try.prog 102 #[.int .i64 n] w fun e w' => e = .returned (.bool false) ∧ Below w.heap.size w w' := by
  have k0 : ∀ (w : World), (Instr.index 31 (.agg #[.int .i64 2, .int .i64 3, .int .i64 5, .int .i64 7]) (.int .i64 0)).run Try.prog w = .ok (.int .i64 2) w := fun _ => by kernel_rfl
  have k1 : ∀ (w : World), (Instr.index 31 (.agg #[.int .i64 2, .int .i64 3, .int .i64 5, .int .i64 7]) (.int .i64 1)).run Try.prog w = .ok (.int .i64 3) w := fun _ => by kernel_rfl
  have k2 : ∀ (w : World), (Instr.index 31 (.agg #[.int .i64 2, .int .i64 3, .int .i64 5, .int .i64 7]) (.int .i64 2)).run Try.prog w = .ok (.int .i64 5) w := fun _ => by kernel_rfl
  have k3 : ∀ (w : World), (Instr.index 31 (.agg #[.int .i64 2, .int .i64 3, .int .i64 5, .int .i64 7]) (.int .i64 3)).run Try.prog w = .ok (.int .i64 7) w := fun _ => by kernel_rfl
  go_enter Try.func102, Try.ntmps102
  go_wp2
  refine wp_loop_rounds 3 ?_
  rw [rounds_succ]
  go_wp2_with (first | (go_at_call 123; first | ((with_reducible refine (W2 _).mono ?_); rintro e w2 ⟨rfl, hb2⟩; obtain ⟨g2, rfl⟩ := more_of_below hb2; clear hb2) | ((with_reducible refine (W3 _).mono ?_); rintro e w3 ⟨rfl, hb3⟩; obtain ⟨g3, rfl⟩ := more_of_below hb3; clear hb3)))
  rw [rounds_succ]
  go_wp2_with (first | (go_at_call 123; first | ((with_reducible refine (W2 _).mono ?_); rintro e w2 ⟨rfl, hb2⟩; obtain ⟨g2, rfl⟩ := more_of_below hb2; clear hb2) | ((with_reducible refine (W3 _).mono ?_); rintro e w3 ⟨rfl, hb3⟩; obtain ⟨g3, rfl⟩ := more_of_below hb3; clear hb3)))
  rw [rounds_succ]
  go_wp2_with (first | (go_at_call 123; first | ((with_reducible refine (W2 _).mono ?_); rintro e w2 ⟨rfl, hb2⟩; obtain ⟨g2, rfl⟩ := more_of_below hb2; clear hb2) | ((with_reducible refine (W3 _).mono ?_); rintro e w3 ⟨rfl, hb3⟩; obtain ⟨g3, rfl⟩ := more_of_below hb3; clear hb3)))
  go_ret
  exact ⟨rfl, by (repeat (first | with_reducible assumption | with_reducible exact Below.refl _ _ | with_reducible refine Below.drewN ?_ _ | with_reducible refine Below.drew ?_ | with_reducible refine Below.alloc ?_ (by first | omega | (simp; done) | (simp; omega)) _ | with_reducible refine Below.setCell ?_ (by first | omega | (simp; done) | (simp; omega)) _ | with_reducible refine below_more _ _ ?_ (by first | omega | (simp; done) | (simp; omega))))⟩
set_option maxRecDepth 10000 in
set_option maxHeartbeats 1000000 in
theorem isPrime_w5 (n : Int) (hn2 : n ≤ 1000000000) (h2 : 2 ≤ n) (e2 : (n == 2) = false) (z2 : (n % 2 == 0) = false) (W2 : ∀ w, Calls Try.prog 123 #[.int .i64 2, .int .i64 n] w fun e w' => e = .returned (.bool false) ∧ Below w.heap.size w w') (e3 : (n == 3) = false) (z3 : (n % 3 == 0) = false) (W3 : ∀ w, Calls Try.prog 123 #[.int .i64 3, .int .i64 n] w fun e w' => e = .returned (.bool false) ∧ Below w.heap.size w w') (e5 : (n == 5) = false) (z5 : (n % 5 == 0) = false) (W5 : ∀ w, Calls Try.prog 123 #[.int .i64 5, .int .i64 n] w fun e w' => e = .returned (.bool true) ∧ Below w.heap.size w w') (w : World) :
    Calls Try.prog 102 #[.int .i64 n] w fun e w' => e = .returned (.bool false) ∧ Below w.heap.size w w' := by
  have k0 : ∀ (w : World), (Instr.index 31 (.agg #[.int .i64 2, .int .i64 3, .int .i64 5, .int .i64 7]) (.int .i64 0)).run Try.prog w = .ok (.int .i64 2) w := fun _ => by kernel_rfl
  have k1 : ∀ (w : World), (Instr.index 31 (.agg #[.int .i64 2, .int .i64 3, .int .i64 5, .int .i64 7]) (.int .i64 1)).run Try.prog w = .ok (.int .i64 3) w := fun _ => by kernel_rfl
  have k2 : ∀ (w : World), (Instr.index 31 (.agg #[.int .i64 2, .int .i64 3, .int .i64 5, .int .i64 7]) (.int .i64 2)).run Try.prog w = .ok (.int .i64 5) w := fun _ => by kernel_rfl
  have k3 : ∀ (w : World), (Instr.index 31 (.agg #[.int .i64 2, .int .i64 3, .int .i64 5, .int .i64 7]) (.int .i64 3)).run Try.prog w = .ok (.int .i64 7) w := fun _ => by kernel_rfl
  go_enter Try.func102, Try.ntmps102
  go_wp2
  refine wp_loop_rounds 3 ?_
  rw [rounds_succ]
  go_wp2_with (first | (go_at_call 123; first | ((with_reducible refine (W2 _).mono ?_); rintro e w2 ⟨rfl, hb2⟩; obtain ⟨g2, rfl⟩ := more_of_below hb2; clear hb2) | ((with_reducible refine (W3 _).mono ?_); rintro e w3 ⟨rfl, hb3⟩; obtain ⟨g3, rfl⟩ := more_of_below hb3; clear hb3) | ((with_reducible refine (W5 _).mono ?_); rintro e w5 ⟨rfl, hb5⟩; obtain ⟨g5, rfl⟩ := more_of_below hb5; clear hb5)))
  rw [rounds_succ]
  go_wp2_with (first | (go_at_call 123; first | ((with_reducible refine (W2 _).mono ?_); rintro e w2 ⟨rfl, hb2⟩; obtain ⟨g2, rfl⟩ := more_of_below hb2; clear hb2) | ((with_reducible refine (W3 _).mono ?_); rintro e w3 ⟨rfl, hb3⟩; obtain ⟨g3, rfl⟩ := more_of_below hb3; clear hb3) | ((with_reducible refine (W5 _).mono ?_); rintro e w5 ⟨rfl, hb5⟩; obtain ⟨g5, rfl⟩ := more_of_below hb5; clear hb5)))
  rw [rounds_succ]
  go_wp2_with (first | (go_at_call 123; first | ((with_reducible refine (W2 _).mono ?_); rintro e w2 ⟨rfl, hb2⟩; obtain ⟨g2, rfl⟩ := more_of_below hb2; clear hb2) | ((with_reducible refine (W3 _).mono ?_); rintro e w3 ⟨rfl, hb3⟩; obtain ⟨g3, rfl⟩ := more_of_below hb3; clear hb3) | ((with_reducible refine (W5 _).mono ?_); rintro e w5 ⟨rfl, hb5⟩; obtain ⟨g5, rfl⟩ := more_of_below hb5; clear hb5)))
  go_ret
  exact ⟨rfl, by (repeat (first | with_reducible assumption | with_reducible exact Below.refl _ _ | with_reducible refine Below.drewN ?_ _ | with_reducible refine Below.drew ?_ | with_reducible refine Below.alloc ?_ (by first | omega | (simp; done) | (simp; omega)) _ | with_reducible refine Below.setCell ?_ (by first | omega | (simp; done) | (simp; omega)) _ | with_reducible refine below_more _ _ ?_ (by first | omega | (simp; done) | (simp; omega))))⟩
set_option maxRecDepth 10000 in
set_option maxHeartbeats 1000000 in
theorem isPrime_e7 (n : Int) (hn2 : n ≤ 1000000000) (h2 : 2 ≤ n) (e2 : (n == 2) = false) (z2 : (n % 2 == 0) = false) (W2 : ∀ w, Calls Try.prog 123 #[.int .i64 2, .int .i64 n] w fun e w' => e = .returned (.bool false) ∧ Below w.heap.size w w') (e3 : (n == 3) = false) (z3 : (n % 3 == 0) = false) (W3 : ∀ w, Calls Try.prog 123 #[.int .i64 3, .int .i64 n] w fun e w' => e = .returned (.bool false) ∧ Below w.heap.size w w') (e5 : (n == 5) = false) (z5 : (n % 5 == 0) = false) (W5 : ∀ w, Calls Try.prog 123 #[.int .i64 5, .int .i64 n] w fun e w' => e = .returned (.bool false) ∧ Below w.heap.size w w') (e7 : (n == 7) = true) (w : World) :
    Calls Try.prog 102 #[.int .i64 n] w fun e w' => e = .returned (.bool true) ∧ Below w.heap.size w w' := by
  have k0 : ∀ (w : World), (Instr.index 31 (.agg #[.int .i64 2, .int .i64 3, .int .i64 5, .int .i64 7]) (.int .i64 0)).run Try.prog w = .ok (.int .i64 2) w := fun _ => by kernel_rfl
  have k1 : ∀ (w : World), (Instr.index 31 (.agg #[.int .i64 2, .int .i64 3, .int .i64 5, .int .i64 7]) (.int .i64 1)).run Try.prog w = .ok (.int .i64 3) w := fun _ => by kernel_rfl
  have k2 : ∀ (w : World), (Instr.index 31 (.agg #[.int .i64 2, .int .i64 3, .int .i64 5, .int .i64 7]) (.int .i64 2)).run Try.prog w = .ok (.int .i64 5) w := fun _ => by kernel_rfl
  have k3 : ∀ (w : World), (Instr.index 31 (.agg #[.int .i64 2, .int .i64 3, .int .i64 5, .int .i64 7]) (.int .i64 3)).run Try.prog w = .ok (.int .i64 7) w := fun _ => by kernel_rfl
  go_enter Try.func102, Try.ntmps102
  go_wp2
  refine wp_loop_rounds 4 ?_
  rw [rounds_succ]
  go_wp2_with (first | (go_at_call 123; first | ((with_reducible refine (W2 _).mono ?_); rintro e w2 ⟨rfl, hb2⟩; obtain ⟨g2, rfl⟩ := more_of_below hb2; clear hb2) | ((with_reducible refine (W3 _).mono ?_); rintro e w3 ⟨rfl, hb3⟩; obtain ⟨g3, rfl⟩ := more_of_below hb3; clear hb3) | ((with_reducible refine (W5 _).mono ?_); rintro e w5 ⟨rfl, hb5⟩; obtain ⟨g5, rfl⟩ := more_of_below hb5; clear hb5)))
  rw [rounds_succ]
  go_wp2_with (first | (go_at_call 123; first | ((with_reducible refine (W2 _).mono ?_); rintro e w2 ⟨rfl, hb2⟩; obtain ⟨g2, rfl⟩ := more_of_below hb2; clear hb2) | ((with_reducible refine (W3 _).mono ?_); rintro e w3 ⟨rfl, hb3⟩; obtain ⟨g3, rfl⟩ := more_of_below hb3; clear hb3) | ((with_reducible refine (W5 _).mono ?_); rintro e w5 ⟨rfl, hb5⟩; obtain ⟨g5, rfl⟩ := more_of_below hb5; clear hb5)))
  rw [rounds_succ]
  go_wp2_with (first | (go_at_call 123; first | ((with_reducible refine (W2 _).mono ?_); rintro e w2 ⟨rfl, hb2⟩; obtain ⟨g2, rfl⟩ := more_of_below hb2; clear hb2) | ((with_reducible refine (W3 _).mono ?_); rintro e w3 ⟨rfl, hb3⟩; obtain ⟨g3, rfl⟩ := more_of_below hb3; clear hb3) | ((with_reducible refine (W5 _).mono ?_); rintro e w5 ⟨rfl, hb5⟩; obtain ⟨g5, rfl⟩ := more_of_below hb5; clear hb5)))
  rw [rounds_succ]
  go_wp2_with (first | (go_at_call 123; first | ((with_reducible refine (W2 _).mono ?_); rintro e w2 ⟨rfl, hb2⟩; obtain ⟨g2, rfl⟩ := more_of_below hb2; clear hb2) | ((with_reducible refine (W3 _).mono ?_); rintro e w3 ⟨rfl, hb3⟩; obtain ⟨g3, rfl⟩ := more_of_below hb3; clear hb3) | ((with_reducible refine (W5 _).mono ?_); rintro e w5 ⟨rfl, hb5⟩; obtain ⟨g5, rfl⟩ := more_of_below hb5; clear hb5)))
  go_ret
  exact ⟨rfl, by (repeat (first | with_reducible assumption | with_reducible exact Below.refl _ _ | with_reducible refine Below.drewN ?_ _ | with_reducible refine Below.drew ?_ | with_reducible refine Below.alloc ?_ (by first | omega | (simp; done) | (simp; omega)) _ | with_reducible refine Below.setCell ?_ (by first | omega | (simp; done) | (simp; omega)) _ | with_reducible refine below_more _ _ ?_ (by first | omega | (simp; done) | (simp; omega))))⟩
set_option maxRecDepth 10000 in
set_option maxHeartbeats 1000000 in
theorem isPrime_m7 (n : Int) (hn2 : n ≤ 1000000000) (h2 : 2 ≤ n) (e2 : (n == 2) = false) (z2 : (n % 2 == 0) = false) (W2 : ∀ w, Calls Try.prog 123 #[.int .i64 2, .int .i64 n] w fun e w' => e = .returned (.bool false) ∧ Below w.heap.size w w') (e3 : (n == 3) = false) (z3 : (n % 3 == 0) = false) (W3 : ∀ w, Calls Try.prog 123 #[.int .i64 3, .int .i64 n] w fun e w' => e = .returned (.bool false) ∧ Below w.heap.size w w') (e5 : (n == 5) = false) (z5 : (n % 5 == 0) = false) (W5 : ∀ w, Calls Try.prog 123 #[.int .i64 5, .int .i64 n] w fun e w' => e = .returned (.bool false) ∧ Below w.heap.size w w') (e7 : (n == 7) = false) (z7 : (n % 7 == 0) = true) (w : World) :
    Calls Try.prog 102 #[.int .i64 n] w fun e w' => e = .returned (.bool false) ∧ Below w.heap.size w w' := by
  have k0 : ∀ (w : World), (Instr.index 31 (.agg #[.int .i64 2, .int .i64 3, .int .i64 5, .int .i64 7]) (.int .i64 0)).run Try.prog w = .ok (.int .i64 2) w := fun _ => by kernel_rfl
  have k1 : ∀ (w : World), (Instr.index 31 (.agg #[.int .i64 2, .int .i64 3, .int .i64 5, .int .i64 7]) (.int .i64 1)).run Try.prog w = .ok (.int .i64 3) w := fun _ => by kernel_rfl
  have k2 : ∀ (w : World), (Instr.index 31 (.agg #[.int .i64 2, .int .i64 3, .int .i64 5, .int .i64 7]) (.int .i64 2)).run Try.prog w = .ok (.int .i64 5) w := fun _ => by kernel_rfl
  have k3 : ∀ (w : World), (Instr.index 31 (.agg #[.int .i64 2, .int .i64 3, .int .i64 5, .int .i64 7]) (.int .i64 3)).run Try.prog w = .ok (.int .i64 7) w := fun _ => by kernel_rfl
  go_enter Try.func102, Try.ntmps102
  go_wp2
  refine wp_loop_rounds 4 ?_
  rw [rounds_succ]
  go_wp2_with (first | (go_at_call 123; first | ((with_reducible refine (W2 _).mono ?_); rintro e w2 ⟨rfl, hb2⟩; obtain ⟨g2, rfl⟩ := more_of_below hb2; clear hb2) | ((with_reducible refine (W3 _).mono ?_); rintro e w3 ⟨rfl, hb3⟩; obtain ⟨g3, rfl⟩ := more_of_below hb3; clear hb3) | ((with_reducible refine (W5 _).mono ?_); rintro e w5 ⟨rfl, hb5⟩; obtain ⟨g5, rfl⟩ := more_of_below hb5; clear hb5)))
  rw [rounds_succ]
  go_wp2_with (first | (go_at_call 123; first | ((with_reducible refine (W2 _).mono ?_); rintro e w2 ⟨rfl, hb2⟩; obtain ⟨g2, rfl⟩ := more_of_below hb2; clear hb2) | ((with_reducible refine (W3 _).mono ?_); rintro e w3 ⟨rfl, hb3⟩; obtain ⟨g3, rfl⟩ := more_of_below hb3; clear hb3) | ((with_reducible refine (W5 _).mono ?_); rintro e w5 ⟨rfl, hb5⟩; obtain ⟨g5, rfl⟩ := more_of_below hb5; clear hb5)))
  rw [rounds_succ]
  go_wp2_with (first | (go_at_call 123; first | ((with_reducible refine (W2 _).mono ?_); rintro e w2 ⟨rfl, hb2⟩; obtain ⟨g2, rfl⟩ := more_of_below hb2; clear hb2) | ((with_reducible refine (W3 _).mono ?_); rintro e w3 ⟨rfl, hb3⟩; obtain ⟨g3, rfl⟩ := more_of_below hb3; clear hb3) | ((with_reducible refine (W5 _).mono ?_); rintro e w5 ⟨rfl, hb5⟩; obtain ⟨g5, rfl⟩ := more_of_below hb5; clear hb5)))
  rw [rounds_succ]
  go_wp2_with (first | (go_at_call 123; first | ((with_reducible refine (W2 _).mono ?_); rintro e w2 ⟨rfl, hb2⟩; obtain ⟨g2, rfl⟩ := more_of_below hb2; clear hb2) | ((with_reducible refine (W3 _).mono ?_); rintro e w3 ⟨rfl, hb3⟩; obtain ⟨g3, rfl⟩ := more_of_below hb3; clear hb3) | ((with_reducible refine (W5 _).mono ?_); rintro e w5 ⟨rfl, hb5⟩; obtain ⟨g5, rfl⟩ := more_of_below hb5; clear hb5)))
  go_ret
  exact ⟨rfl, by (repeat (first | with_reducible assumption | with_reducible exact Below.refl _ _ | with_reducible refine Below.drewN ?_ _ | with_reducible refine Below.drew ?_ | with_reducible refine Below.alloc ?_ (by first | omega | (simp; done) | (simp; omega)) _ | with_reducible refine Below.setCell ?_ (by first | omega | (simp; done) | (simp; omega)) _ | with_reducible refine below_more _ _ ?_ (by first | omega | (simp; done) | (simp; omega))))⟩
set_option maxRecDepth 10000 in
set_option maxHeartbeats 1000000 in
theorem isPrime_w7 (n : Int) (hn2 : n ≤ 1000000000) (h2 : 2 ≤ n) (e2 : (n == 2) = false) (z2 : (n % 2 == 0) = false) (W2 : ∀ w, Calls Try.prog 123 #[.int .i64 2, .int .i64 n] w fun e w' => e = .returned (.bool false) ∧ Below w.heap.size w w') (e3 : (n == 3) = false) (z3 : (n % 3 == 0) = false) (W3 : ∀ w, Calls Try.prog 123 #[.int .i64 3, .int .i64 n] w fun e w' => e = .returned (.bool false) ∧ Below w.heap.size w w') (e5 : (n == 5) = false) (z5 : (n % 5 == 0) = false) (W5 : ∀ w, Calls Try.prog 123 #[.int .i64 5, .int .i64 n] w fun e w' => e = .returned (.bool false) ∧ Below w.heap.size w w') (e7 : (n == 7) = false) (z7 : (n % 7 == 0) = false) (W7 : ∀ w, Calls Try.prog 123 #[.int .i64 7, .int .i64 n] w fun e w' => e = .returned (.bool true) ∧ Below w.heap.size w w') (w : World) :
    Calls Try.prog 102 #[.int .i64 n] w fun e w' => e = .returned (.bool false) ∧ Below w.heap.size w w' := by
  have k0 : ∀ (w : World), (Instr.index 31 (.agg #[.int .i64 2, .int .i64 3, .int .i64 5, .int .i64 7]) (.int .i64 0)).run Try.prog w = .ok (.int .i64 2) w := fun _ => by kernel_rfl
  have k1 : ∀ (w : World), (Instr.index 31 (.agg #[.int .i64 2, .int .i64 3, .int .i64 5, .int .i64 7]) (.int .i64 1)).run Try.prog w = .ok (.int .i64 3) w := fun _ => by kernel_rfl
  have k2 : ∀ (w : World), (Instr.index 31 (.agg #[.int .i64 2, .int .i64 3, .int .i64 5, .int .i64 7]) (.int .i64 2)).run Try.prog w = .ok (.int .i64 5) w := fun _ => by kernel_rfl
  have k3 : ∀ (w : World), (Instr.index 31 (.agg #[.int .i64 2, .int .i64 3, .int .i64 5, .int .i64 7]) (.int .i64 3)).run Try.prog w = .ok (.int .i64 7) w := fun _ => by kernel_rfl
  go_enter Try.func102, Try.ntmps102
  go_wp2
  refine wp_loop_rounds 4 ?_
  rw [rounds_succ]
  go_wp2_with (first | (go_at_call 123; first | ((with_reducible refine (W2 _).mono ?_); rintro e w2 ⟨rfl, hb2⟩; obtain ⟨g2, rfl⟩ := more_of_below hb2; clear hb2) | ((with_reducible refine (W3 _).mono ?_); rintro e w3 ⟨rfl, hb3⟩; obtain ⟨g3, rfl⟩ := more_of_below hb3; clear hb3) | ((with_reducible refine (W5 _).mono ?_); rintro e w5 ⟨rfl, hb5⟩; obtain ⟨g5, rfl⟩ := more_of_below hb5; clear hb5) | ((with_reducible refine (W7 _).mono ?_); rintro e w7 ⟨rfl, hb7⟩; obtain ⟨g7, rfl⟩ := more_of_below hb7; clear hb7)))
  rw [rounds_succ]
  go_wp2_with (first | (go_at_call 123; first | ((with_reducible refine (W2 _).mono ?_); rintro e w2 ⟨rfl, hb2⟩; obtain ⟨g2, rfl⟩ := more_of_below hb2; clear hb2) | ((with_reducible refine (W3 _).mono ?_); rintro e w3 ⟨rfl, hb3⟩; obtain ⟨g3, rfl⟩ := more_of_below hb3; clear hb3) | ((with_reducible refine (W5 _).mono ?_); rintro e w5 ⟨rfl, hb5⟩; obtain ⟨g5, rfl⟩ := more_of_below hb5; clear hb5) | ((with_reducible refine (W7 _).mono ?_); rintro e w7 ⟨rfl, hb7⟩; obtain ⟨g7, rfl⟩ := more_of_below hb7; clear hb7)))
  rw [rounds_succ]
  go_wp2_with (first | (go_at_call 123; first | ((with_reducible refine (W2 _).mono ?_); rintro e w2 ⟨rfl, hb2⟩; obtain ⟨g2, rfl⟩ := more_of_below hb2; clear hb2) | ((with_reducible refine (W3 _).mono ?_); rintro e w3 ⟨rfl, hb3⟩; obtain ⟨g3, rfl⟩ := more_of_below hb3; clear hb3) | ((with_reducible refine (W5 _).mono ?_); rintro e w5 ⟨rfl, hb5⟩; obtain ⟨g5, rfl⟩ := more_of_below hb5; clear hb5) | ((with_reducible refine (W7 _).mono ?_); rintro e w7 ⟨rfl, hb7⟩; obtain ⟨g7, rfl⟩ := more_of_below hb7; clear hb7)))
  rw [rounds_succ]
  go_wp2_with (first | (go_at_call 123; first | ((with_reducible refine (W2 _).mono ?_); rintro e w2 ⟨rfl, hb2⟩; obtain ⟨g2, rfl⟩ := more_of_below hb2; clear hb2) | ((with_reducible refine (W3 _).mono ?_); rintro e w3 ⟨rfl, hb3⟩; obtain ⟨g3, rfl⟩ := more_of_below hb3; clear hb3) | ((with_reducible refine (W5 _).mono ?_); rintro e w5 ⟨rfl, hb5⟩; obtain ⟨g5, rfl⟩ := more_of_below hb5; clear hb5) | ((with_reducible refine (W7 _).mono ?_); rintro e w7 ⟨rfl, hb7⟩; obtain ⟨g7, rfl⟩ := more_of_below hb7; clear hb7)))
  go_ret
  exact ⟨rfl, by (repeat (first | with_reducible assumption | with_reducible exact Below.refl _ _ | with_reducible refine Below.drewN ?_ _ | with_reducible refine Below.drew ?_ | with_reducible refine Below.alloc ?_ (by first | omega | (simp; done) | (simp; omega)) _ | with_reducible refine Below.setCell ?_ (by first | omega | (simp; done) | (simp; omega)) _ | with_reducible refine below_more _ _ ?_ (by first | omega | (simp; done) | (simp; omega))))⟩
set_option maxRecDepth 10000 in
set_option maxHeartbeats 1000000 in
theorem isPrime_ok (n : Int) (hn2 : n ≤ 1000000000) (h2 : 2 ≤ n) (e2 : (n == 2) = false) (z2 : (n % 2 == 0) = false) (W2 : ∀ w, Calls Try.prog 123 #[.int .i64 2, .int .i64 n] w fun e w' => e = .returned (.bool false) ∧ Below w.heap.size w w') (e3 : (n == 3) = false) (z3 : (n % 3 == 0) = false) (W3 : ∀ w, Calls Try.prog 123 #[.int .i64 3, .int .i64 n] w fun e w' => e = .returned (.bool false) ∧ Below w.heap.size w w') (e5 : (n == 5) = false) (z5 : (n % 5 == 0) = false) (W5 : ∀ w, Calls Try.prog 123 #[.int .i64 5, .int .i64 n] w fun e w' => e = .returned (.bool false) ∧ Below w.heap.size w w') (e7 : (n == 7) = false) (z7 : (n % 7 == 0) = false) (W7 : ∀ w, Calls Try.prog 123 #[.int .i64 7, .int .i64 n] w fun e w' => e = .returned (.bool false) ∧ Below w.heap.size w w') (w : World) :
    Calls Try.prog 102 #[.int .i64 n] w fun e w' => e = .returned (.bool true) ∧ Below w.heap.size w w' := by
  have k0 : ∀ (w : World), (Instr.index 31 (.agg #[.int .i64 2, .int .i64 3, .int .i64 5, .int .i64 7]) (.int .i64 0)).run Try.prog w = .ok (.int .i64 2) w := fun _ => by kernel_rfl
  have k1 : ∀ (w : World), (Instr.index 31 (.agg #[.int .i64 2, .int .i64 3, .int .i64 5, .int .i64 7]) (.int .i64 1)).run Try.prog w = .ok (.int .i64 3) w := fun _ => by kernel_rfl
  have k2 : ∀ (w : World), (Instr.index 31 (.agg #[.int .i64 2, .int .i64 3, .int .i64 5, .int .i64 7]) (.int .i64 2)).run Try.prog w = .ok (.int .i64 5) w := fun _ => by kernel_rfl
  have k3 : ∀ (w : World), (Instr.index 31 (.agg #[.int .i64 2, .int .i64 3, .int .i64 5, .int .i64 7]) (.int .i64 3)).run Try.prog w = .ok (.int .i64 7) w := fun _ => by kernel_rfl
  go_enter Try.func102, Try.ntmps102
  go_wp2
  refine wp_loop_rounds 5 ?_
  rw [rounds_succ]
  go_wp2_with (first | (go_at_call 123; first | ((with_reducible refine (W2 _).mono ?_); rintro e w2 ⟨rfl, hb2⟩; obtain ⟨g2, rfl⟩ := more_of_below hb2; clear hb2) | ((with_reducible refine (W3 _).mono ?_); rintro e w3 ⟨rfl, hb3⟩; obtain ⟨g3, rfl⟩ := more_of_below hb3; clear hb3) | ((with_reducible refine (W5 _).mono ?_); rintro e w5 ⟨rfl, hb5⟩; obtain ⟨g5, rfl⟩ := more_of_below hb5; clear hb5) | ((with_reducible refine (W7 _).mono ?_); rintro e w7 ⟨rfl, hb7⟩; obtain ⟨g7, rfl⟩ := more_of_below hb7; clear hb7)))
  rw [rounds_succ]
  go_wp2_with (first | (go_at_call 123; first | ((with_reducible refine (W2 _).mono ?_); rintro e w2 ⟨rfl, hb2⟩; obtain ⟨g2, rfl⟩ := more_of_below hb2; clear hb2) | ((with_reducible refine (W3 _).mono ?_); rintro e w3 ⟨rfl, hb3⟩; obtain ⟨g3, rfl⟩ := more_of_below hb3; clear hb3) | ((with_reducible refine (W5 _).mono ?_); rintro e w5 ⟨rfl, hb5⟩; obtain ⟨g5, rfl⟩ := more_of_below hb5; clear hb5) | ((with_reducible refine (W7 _).mono ?_); rintro e w7 ⟨rfl, hb7⟩; obtain ⟨g7, rfl⟩ := more_of_below hb7; clear hb7)))
  rw [rounds_succ]
  go_wp2_with (first | (go_at_call 123; first | ((with_reducible refine (W2 _).mono ?_); rintro e w2 ⟨rfl, hb2⟩; obtain ⟨g2, rfl⟩ := more_of_below hb2; clear hb2) | ((with_reducible refine (W3 _).mono ?_); rintro e w3 ⟨rfl, hb3⟩; obtain ⟨g3, rfl⟩ := more_of_below hb3; clear hb3) | ((with_reducible refine (W5 _).mono ?_); rintro e w5 ⟨rfl, hb5⟩; obtain ⟨g5, rfl⟩ := more_of_below hb5; clear hb5) | ((with_reducible refine (W7 _).mono ?_); rintro e w7 ⟨rfl, hb7⟩; obtain ⟨g7, rfl⟩ := more_of_below hb7; clear hb7)))
  rw [rounds_succ]
  go_wp2_with (first | (go_at_call 123; first | ((with_reducible refine (W2 _).mono ?_); rintro e w2 ⟨rfl, hb2⟩; obtain ⟨g2, rfl⟩ := more_of_below hb2; clear hb2) | ((with_reducible refine (W3 _).mono ?_); rintro e w3 ⟨rfl, hb3⟩; obtain ⟨g3, rfl⟩ := more_of_below hb3; clear hb3) | ((with_reducible refine (W5 _).mono ?_); rintro e w5 ⟨rfl, hb5⟩; obtain ⟨g5, rfl⟩ := more_of_below hb5; clear hb5) | ((with_reducible refine (W7 _).mono ?_); rintro e w7 ⟨rfl, hb7⟩; obtain ⟨g7, rfl⟩ := more_of_below hb7; clear hb7)))
  rw [rounds_succ]
  go_wp2_with (first | (go_at_call 123; first | ((with_reducible refine (W2 _).mono ?_); rintro e w2 ⟨rfl, hb2⟩; obtain ⟨g2, rfl⟩ := more_of_below hb2; clear hb2) | ((with_reducible refine (W3 _).mono ?_); rintro e w3 ⟨rfl, hb3⟩; obtain ⟨g3, rfl⟩ := more_of_below hb3; clear hb3) | ((with_reducible refine (W5 _).mono ?_); rintro e w5 ⟨rfl, hb5⟩; obtain ⟨g5, rfl⟩ := more_of_below hb5; clear hb5) | ((with_reducible refine (W7 _).mono ?_); rintro e w7 ⟨rfl, hb7⟩; obtain ⟨g7, rfl⟩ := more_of_below hb7; clear hb7)))
  go_ret
  exact ⟨rfl, by (repeat (first | with_reducible assumption | with_reducible exact Below.refl _ _ | with_reducible refine Below.drewN ?_ _ | with_reducible refine Below.drew ?_ | with_reducible refine Below.alloc ?_ (by first | omega | (simp; done) | (simp; omega)) _ | with_reducible refine Below.setCell ?_ (by first | omega | (simp; done) | (simp; omega)) _ | with_reducible refine below_more _ _ ?_ (by first | omega | (simp; done) | (simp; omega))))⟩
theorem isPrime_in (n : Nat) (hn2 : n ≤ 1000000000) (w : World) :
    Calls Try.prog 102 #[.int .i64 ((n : Int))] w fun e w' => e = .returned (.bool (mrfour n)) ∧ Below w.heap.size w w' := by
  have hF : mrfour n = (Nat.ble 2 n && mrbase 2 n (mrbase 3 n (mrbase 5 n (mrbase 7 n true)))) := rfl
  have hb : (n : Int) ≤ 1000000000 := by omega
  by_cases h2 : n < 2
  · have : Nat.ble 2 n = false := Bool.eq_false_iff.2 fun h => by rw [Nat.ble_eq] at h; omega
    rw [hF, this, Bool.false_and]
    exact isPrime_lt n hb (by omega) w
  have g2 : (2 : Int) ≤ (n : Int) := by omega
  rw [hF, show Nat.ble 2 n = true by rw [Nat.ble_eq]; omega, Bool.true_and]
  have ee : ∀ a : Nat, ¬ n = a → ((n : Int) == (a : Int)) = false := fun a h => by rw [beq_eq_false_iff_ne]; omega
  have et : ∀ a : Nat, n = a → ((n : Int) == (a : Int)) = true := fun a h => by rw [beq_iff_eq]; omega
  have zz : ∀ a : Nat, ¬ n % a = 0 → ((n : Int) % (a : Int) == 0) = false := fun a h => by rw [beq_eq_false_iff_ne]; omega
  have zt : ∀ a : Nat, n % a = 0 → ((n : Int) % (a : Int) == 0) = true := fun a h => by rw [beq_iff_eq]; omega
  have WW := fun (a : Nat) (ha : a ≤ 7) (h3 : 3 ≤ n) (ho : n % 2 = 1) => witness_in a n ha h3 hn2 ho
  rw [show (mrbase 2 n (mrbase 3 n (mrbase 5 n (mrbase 7 n true)))) = (Nat.beq n 2 || (!Nat.beq (n % 2) 0 && (strong 2 n && (mrbase 3 n (mrbase 5 n (mrbase 7 n true)))))) from rfl]
  by_cases e2 : n = 2
  · rw [beqt e2, Bool.true_or]
    exact isPrime_e2 n hb g2 (et 2 e2) w
  rw [beqf e2, Bool.false_or]
  by_cases m2 : n % 2 = 0
  · rw [beqt m2, Bool.not_true, Bool.false_and]
    exact isPrime_m2 n hb g2 (ee 2 e2) (zt 2 m2) w
  rw [beqf m2, Bool.not_false, Bool.true_and]
  have W2 := WW 2 (by omega) (by omega) (by omega)
  cases hs2 : strong 2 n
  · rw [hs2, Bool.not_false] at W2
    rw [Bool.false_and]
    exact isPrime_w2 n hb g2 (ee 2 e2) (zz 2 m2) W2 w
  rw [hs2, Bool.not_true] at W2
  rw [Bool.true_and]
  rw [show (mrbase 3 n (mrbase 5 n (mrbase 7 n true))) = (Nat.beq n 3 || (!Nat.beq (n % 3) 0 && (strong 3 n && (mrbase 5 n (mrbase 7 n true))))) from rfl]
  by_cases e3 : n = 3
  · rw [beqt e3, Bool.true_or]
    exact isPrime_e3 n hb g2 (ee 2 e2) (zz 2 m2) W2 (et 3 e3) w
  rw [beqf e3, Bool.false_or]
  by_cases m3 : n % 3 = 0
  · rw [beqt m3, Bool.not_true, Bool.false_and]
    exact isPrime_m3 n hb g2 (ee 2 e2) (zz 2 m2) W2 (ee 3 e3) (zt 3 m3) w
  rw [beqf m3, Bool.not_false, Bool.true_and]
  have W3 := WW 3 (by omega) (by omega) (by omega)
  cases hs3 : strong 3 n
  · rw [hs3, Bool.not_false] at W3
    rw [Bool.false_and]
    exact isPrime_w3 n hb g2 (ee 2 e2) (zz 2 m2) W2 (ee 3 e3) (zz 3 m3) W3 w
  rw [hs3, Bool.not_true] at W3
  rw [Bool.true_and]
  rw [show (mrbase 5 n (mrbase 7 n true)) = (Nat.beq n 5 || (!Nat.beq (n % 5) 0 && (strong 5 n && (mrbase 7 n true)))) from rfl]
  by_cases e5 : n = 5
  · rw [beqt e5, Bool.true_or]
    exact isPrime_e5 n hb g2 (ee 2 e2) (zz 2 m2) W2 (ee 3 e3) (zz 3 m3) W3 (et 5 e5) w
  rw [beqf e5, Bool.false_or]
  by_cases m5 : n % 5 = 0
  · rw [beqt m5, Bool.not_true, Bool.false_and]
    exact isPrime_m5 n hb g2 (ee 2 e2) (zz 2 m2) W2 (ee 3 e3) (zz 3 m3) W3 (ee 5 e5) (zt 5 m5) w
  rw [beqf m5, Bool.not_false, Bool.true_and]
  have W5 := WW 5 (by omega) (by omega) (by omega)
  cases hs5 : strong 5 n
  · rw [hs5, Bool.not_false] at W5
    rw [Bool.false_and]
    exact isPrime_w5 n hb g2 (ee 2 e2) (zz 2 m2) W2 (ee 3 e3) (zz 3 m3) W3 (ee 5 e5) (zz 5 m5) W5 w
  rw [hs5, Bool.not_true] at W5
  rw [Bool.true_and]
  rw [show (mrbase 7 n true) = (Nat.beq n 7 || (!Nat.beq (n % 7) 0 && (strong 7 n && true))) from rfl]
  by_cases e7 : n = 7
  · rw [beqt e7, Bool.true_or]
    exact isPrime_e7 n hb g2 (ee 2 e2) (zz 2 m2) W2 (ee 3 e3) (zz 3 m3) W3 (ee 5 e5) (zz 5 m5) W5 (et 7 e7) w
  rw [beqf e7, Bool.false_or]
  by_cases m7 : n % 7 = 0
  · rw [beqt m7, Bool.not_true, Bool.false_and]
    exact isPrime_m7 n hb g2 (ee 2 e2) (zz 2 m2) W2 (ee 3 e3) (zz 3 m3) W3 (ee 5 e5) (zz 5 m5) W5 (ee 7 e7) (zt 7 m7) w
  rw [beqf m7, Bool.not_false, Bool.true_and]
  have W7 := WW 7 (by omega) (by omega) (by omega)
  cases hs7 : strong 7 n
  · rw [hs7, Bool.not_false] at W7
    rw [Bool.false_and]
    exact isPrime_w7 n hb g2 (ee 2 e2) (zz 2 m2) W2 (ee 3 e3) (zz 3 m3) W3 (ee 5 e5) (zz 5 m5) W5 (ee 7 e7) (zz 7 m7) W7 w
  rw [hs7, Bool.not_true] at W7
  rw [Bool.true_and]
  exact isPrime_ok n hb g2 (ee 2 e2) (zz 2 m2) W2 (ee 3 e3) (zz 3 m3) W3 (ee 5 e5) (zz 5 m5) W5 (ee 7 e7) (zz 7 m7) W7 w
theorem isPrime_neg (n : Int) (h : n < 2) (w : World) :
    Calls Try.prog 102 #[.int .i64 n] w fun e w' => e = .returned (.bool (mrfour n.toNat)) ∧ Below w.heap.size w w' := by
  have : mrfour n.toNat = false := by
    unfold mrfour
    rw [show Nat.ble 2 n.toNat = false from Bool.eq_false_iff.2 fun h => by rw [Nat.ble_eq] at h; omega, Bool.false_and]
  rw [this]
  exact isPrime_lt n (by omega) h w
theorem isPrime_all (n : Int) (h : n ≤ 1000000000) (w : World) :
    Calls Try.prog 102 #[.int .i64 n] w fun e w' => e = .returned (.bool (mrfour n.toNat)) ∧ Below w.heap.size w w' := by
  by_cases hn : n < 2
  · exact isPrime_neg n hn w
  · have := isPrime_in n.toNat (by omega) w
    rwa [show ((n.toNat : Nat) : Int) = n by omega] at this

theorem sq_mono {a b : Nat} (h : a ≤ b) : a * a ≤ b * b := Nat.mul_le_mul h h
set_option maxHeartbeats 1000000 in
/-- The reference's test: whatever Bool says that n is a prime. -/
theorem rprime_in (n : Int) (h : n ≤ 1000000000) (b : Bool) (hb : b = true ↔ Prm n.toNat) (w : World) :
    Calls Try.prog 54 #[.int .i64 n] w fun e w' => e = .returned (.bool b) ∧ Below w.heap.size w w' := by
  by_cases h2 : n < 2
  · have : b = false := Bool.eq_false_iff.2 fun hc => by have := (hb.1 hc).1; omega
    subst this
    clear hb
    go_enter Try.func54, Try.ntmps54
    go_wp2
    go_ret
    exact ⟨rfl, by (repeat (first | with_reducible assumption | with_reducible exact Below.refl _ _ | with_reducible refine Below.drewN ?_ _ | with_reducible refine Below.drew ?_ | with_reducible refine Below.alloc ?_ (by first | omega | (simp; done) | (simp; omega)) _ | with_reducible refine Below.setCell ?_ (by first | omega | (simp; done) | (simp; omega)) _ | with_reducible refine below_more _ _ ?_ (by first | omega | (simp; done) | (simp; omega))))⟩
  · obtain ⟨N, rfl⟩ : ∃ N : Nat, n = N := ⟨n.toNat, by omega⟩
    rw [Int.toNat_natCast] at hb
    have HB := Lib.hid hb
    clear hb
    have g2 : ¬ (N : Int) < 2 := h2
    go_enter Try.func54, Try.ntmps54
    go_wp2
    go_loopw [3] (fun d wr => (∃ D : Nat, d = .int .i64 ((D : Int)) ∧ 2 ≤ D ∧ D ≤ 31623 ∧ Hid (∀ e, 2 ≤ e → e < D → N % e ≠ 0)) ∧ Ext w wr) (fun d _ => 31624 - (intOf d).natAbs)
    case atStart => exact ⟨⟨2, rfl, by omega, by omega, fun e h1 h2 => by omega⟩, Ext.refl _⟩
    case round =>
      obtain ⟨⟨D, rfl, h3, h4, HT⟩, hext⟩ := hrel
      obtain ⟨g0, rfl⟩ := more_of_below (Ext.below hext)
      clear hext
      obtain ⟨m4, m5, m6⟩ := mulb (a := D) (b := D) (by omega) (by omega)
      have d0 : ¬ (D : Int) = 0 := by omega
      by_cases hd : (D : Int) * D ≤ N
      · have hD : D < 31623 := by
          apply Nat.lt_of_not_le; intro hc
          have := sq_mono hc
          omega
        have q2 : (N : Int).tmod D = ((N % D : Nat) : Int) := tmod_cast _ _
        by_cases hm : N % D = 0
        · have : b = false := Bool.eq_false_iff.2 fun hc => (HB.out.1 hc).2 D h3 (by omega) hm
          subst this
          have z1 : ((N : Int).tmod D == 0) = true := by rw [beq_iff_eq]; omega
          have z2 : ((N : Int) % D == 0) = true := by rw [beq_iff_eq]; omega
          clear HB HT q2 m6
          go_wp2
          go_ret
          exact ⟨rfl, by (repeat (first | with_reducible assumption | with_reducible exact Below.refl _ _ | with_reducible refine Below.drewN ?_ _ | with_reducible refine Below.drew ?_ | with_reducible refine Below.alloc ?_ (by first | omega | (simp; done) | (simp; omega)) _ | with_reducible refine Below.setCell ?_ (by first | omega | (simp; done) | (simp; omega)) _ | with_reducible refine below_more _ _ ?_ (by first | omega | (simp; done) | (simp; omega))))⟩
        · have z1 : ((N : Int).tmod D == 0) = false := by rw [beq_eq_false_iff_ne]; omega
          have z2 : ((N : Int) % D == 0) = false := by rw [beq_eq_false_iff_ne]; omega
          have HM := Lib.hid hm
          clear q2 m6 hm
          go_wp2
          go_roundw
          case rel => exact ⟨⟨D + 1, by go_num, by omega, by omega, fun e h1 h2 => by
            by_cases he : e = D
            · rw [he]; exact HM.out
            · exact HT.out e h1 (by omega)⟩, ext_mk (by (repeat (first | with_reducible assumption | with_reducible exact Below.refl _ _ | with_reducible refine Below.drewN ?_ _ | with_reducible refine Below.drew ?_ | with_reducible refine Below.alloc ?_ (by first | omega | (simp; done) | (simp; omega)) _ | with_reducible refine Below.setCell ?_ (by first | omega | (simp; done) | (simp; omega)) _ | with_reducible refine below_more _ _ ?_ (by first | omega | (simp; done) | (simp; omega)))))⟩
          case measure => simp [intOf]; omega
      · have : b = true := HB.out.2 ⟨by omega, fun e h1 h2 => by
          refine HT.out e h1 (Nat.lt_of_not_le fun hc => ?_)
          have := sq_mono hc
          omega⟩
        subst this
        clear HB HT m6
        go_wp2
        go_ret
        exact ⟨rfl, by (repeat (first | with_reducible assumption | with_reducible exact Below.refl _ _ | with_reducible refine Below.drewN ?_ _ | with_reducible refine Below.drew ?_ | with_reducible refine Below.alloc ?_ (by first | omega | (simp; done) | (simp; omega)) _ | with_reducible refine Below.setCell ?_ (by first | omega | (simp; done) | (simp; omega)) _ | with_reducible refine below_more _ _ ?_ (by first | omega | (simp; done) | (simp; omega))))⟩
end Go.Proofs.Ythajaabgcbjfkaa
