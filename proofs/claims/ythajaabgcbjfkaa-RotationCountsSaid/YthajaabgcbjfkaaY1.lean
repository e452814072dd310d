/- Plain: the test of four bases tells the primes up to a million. -/
import Derived.Test.YthajaabgcbjfkaaProg
namespace Go.Proofs.Ythajaabgcbjfkaa

/-- A prime, by trial. -/
def Prm (n : Nat) : Prop := 2 ≤ n ∧ ∀ d, 2 ≤ d → d * d ≤ n → n % d ≠ 0
/-- n = 2 ^ k * odd. -/
def val2 : Nat → Nat → Nat × Nat
  | 0, n => (0, n)
  | f + 1, n => if n % 2 = 0 then ((val2 f (n / 2)).1 + 1, (val2 f (n / 2)).2) else (0, n)
/-- A square of the next k ones is -1. -/
def sqs (n : Nat) : Nat → Nat → Bool
  | 0, _ => false
  | k + 1, x => Nat.beq (x * x % n) (n - 1) || sqs n k (x * x % n)
/-- The base a does not show that n is composite. -/
def strong (a n : Nat) : Bool :=
  Nat.beq (a ^ (val2 64 (n - 1)).2 % n) 1 || (Nat.beq (a ^ (val2 64 (n - 1)).2 % n) (n - 1) || sqs n ((val2 64 (n - 1)).1 - 1) (a ^ (val2 64 (n - 1)).2 % n))
/-- The test of four bases. -/
def mrbase (a n : Nat) (rest : Bool) : Bool := Nat.beq n a || (!Nat.beq (n % a) 0 && (strong a n && rest))
def mrfour (n : Nat) : Bool := Nat.ble 2 n && mrbase 2 n (mrbase 3 n (mrbase 5 n (mrbase 7 n true)))

def qpow (a e n : Nat) : Nat := ((a ^ (e / 1024) % n) ^ 1024 % n * (a ^ (e % 1024))) % n
theorem qpow_gen (a e n c : Nat) : ((a ^ (e / c) % n) ^ c % n * (a ^ (e % c))) % n = a ^ e % n := by
  rw [← Nat.pow_mod, ← Nat.pow_mul, Nat.mod_mul_mod, ← Nat.pow_add, Nat.mul_comm (e / c) c, Nat.div_add_mod]
theorem qpow_eq (a e n : Nat) : qpow a e n = a ^ e % n := by
  unfold qpow
  generalize 1024 = c
  exact qpow_gen a e n c
def strongQ (a n : Nat) : Bool :=
  Nat.beq (qpow a (val2 64 (n - 1)).2 n) 1 || (Nat.beq (qpow a (val2 64 (n - 1)).2 n) (n - 1) || sqs n ((val2 64 (n - 1)).1 - 1) (qpow a (val2 64 (n - 1)).2 n))
theorem strongQ_eq (a n : Nat) : strongQ a n = strong a n := by unfold strongQ strong; rw [qpow_eq]
def smalls : List Nat := [2, 3, 5, 7, 11, 13, 17, 19, 23, 29, 31, 37, 41, 43, 47, 53, 59, 61, 67, 71, 73, 79, 83, 89, 97, 101, 103, 107, 109, 113, 127, 131, 137, 139, 149, 151, 157, 163, 167, 173, 179, 181, 191, 193, 197, 199, 211, 223, 227, 229, 233, 239, 241, 251, 257, 263, 269, 271, 277, 281, 283, 293, 307, 311, 313, 317, 331, 337, 347, 349, 353, 359, 367, 373, 379, 383, 389, 397, 401, 409, 419, 421, 431, 433, 439, 443, 449, 457, 461, 463, 467, 479, 487, 491, 499, 503, 509, 521, 523, 541, 547, 557, 563, 569, 571, 577, 587, 593, 599, 601, 607, 613, 617, 619, 631, 641, 643, 647, 653, 659, 661, 673, 677, 683, 691, 701, 709, 719, 727, 733, 739, 743, 751, 757, 761, 769, 773, 787, 797, 809, 811, 821, 823, 827, 829, 839, 853, 857, 859, 863, 877, 881, 883, 887, 907, 911, 919, 929, 937, 941, 947, 953, 967, 971, 977, 983, 991, 997]
def primorial : Nat := 19590340644999083431262508198206381046123972390589368223882605328968666316379870661851951648789482321596229559115436019149189529725215266728292282990852649023362731392404017939142010958261393634959471483757196721672243410067118516227661133135192488848989914892157188308679896875137439519338903968094905549750386407106033836586660683539201011635917900039904495065203299749542985993134669814805318474080581207891125910
theorem primorial_eq : primorial = smalls.foldr (fun a b => a * b) 1 := by decide +kernel
def mr (n : Nat) : Bool := strongQ 2 n && (strongQ 3 n && (strongQ 5 n && strongQ 7 n))
def tst (n : Nat) : Bool := Nat.beq (n % 3) 0 || (Nat.beq (n % 5) 0 || (Nat.beq (n % 7) 0 || cond (Nat.beq (Nat.gcd n primorial) 1) (mr n) (!(mr n))))
def chk (b : Nat) : Nat → Bool
  | 0 => true
  | i + 1 => tst (b + 2 * i) && chk b i
theorem chk_out {b c i : Nat} (h : chk b c = true) (hi : i < c) : tst (b + 2 * i) = true := by
  induction c with
  | zero => omega
  | succ c ih =>
    simp only [chk, Bool.and_eq_true] at h
    by_cases hc : i = c
    · rw [hc]; exact h.1
    · exact ih h.2 (by omega)
theorem chk0 : chk 1001 9990 = true := by decide +kernel
theorem chk1 : chk 20981 9990 = true := by decide +kernel
theorem chk2 : chk 40961 9990 = true := by decide +kernel
theorem chk3 : chk 60941 9990 = true := by decide +kernel
theorem chk4 : chk 80921 9990 = true := by decide +kernel
theorem chk5 : chk 100901 9990 = true := by decide +kernel
theorem chk6 : chk 120881 9990 = true := by decide +kernel
theorem chk7 : chk 140861 9990 = true := by decide +kernel
theorem chk8 : chk 160841 9990 = true := by decide +kernel
theorem chk9 : chk 180821 9990 = true := by decide +kernel
theorem chk10 : chk 200801 9990 = true := by decide +kernel
theorem chk11 : chk 220781 9990 = true := by decide +kernel
theorem chk12 : chk 240761 9990 = true := by decide +kernel
theorem chk13 : chk 260741 9990 = true := by decide +kernel
theorem chk14 : chk 280721 9990 = true := by decide +kernel
theorem chk15 : chk 300701 9990 = true := by decide +kernel
theorem chk16 : chk 320681 9990 = true := by decide +kernel
theorem chk17 : chk 340661 9990 = true := by decide +kernel
theorem chk18 : chk 360641 9990 = true := by decide +kernel
theorem chk19 : chk 380621 9990 = true := by decide +kernel
theorem chk20 : chk 400601 9990 = true := by decide +kernel
theorem chk21 : chk 420581 9990 = true := by decide +kernel
theorem chk22 : chk 440561 9990 = true := by decide +kernel
theorem chk23 : chk 460541 9990 = true := by decide +kernel
theorem chk24 : chk 480521 9990 = true := by decide +kernel
theorem chk25 : chk 500501 9990 = true := by decide +kernel
theorem chk26 : chk 520481 9990 = true := by decide +kernel
theorem chk27 : chk 540461 9990 = true := by decide +kernel
theorem chk28 : chk 560441 9990 = true := by decide +kernel
theorem chk29 : chk 580421 9990 = true := by decide +kernel
theorem chk30 : chk 600401 9990 = true := by decide +kernel
theorem chk31 : chk 620381 9990 = true := by decide +kernel
theorem chk32 : chk 640361 9990 = true := by decide +kernel
theorem chk33 : chk 660341 9990 = true := by decide +kernel
theorem chk34 : chk 680321 9990 = true := by decide +kernel
theorem chk35 : chk 700301 9990 = true := by decide +kernel
theorem chk36 : chk 720281 9990 = true := by decide +kernel
theorem chk37 : chk 740261 9990 = true := by decide +kernel
theorem chk38 : chk 760241 9990 = true := by decide +kernel
theorem chk39 : chk 780221 9990 = true := by decide +kernel
theorem chk40 : chk 800201 9990 = true := by decide +kernel
theorem chk41 : chk 820181 9990 = true := by decide +kernel
theorem chk42 : chk 840161 9990 = true := by decide +kernel
theorem chk43 : chk 860141 9990 = true := by decide +kernel
theorem chk44 : chk 880121 9990 = true := by decide +kernel
theorem chk45 : chk 900101 9990 = true := by decide +kernel
theorem chk46 : chk 920081 9990 = true := by decide +kernel
theorem chk47 : chk 940061 9990 = true := by decide +kernel
theorem chk48 : chk 960041 9990 = true := by decide +kernel
theorem chk49 : chk 980021 9990 = true := by decide +kernel

theorem tst_all {n : Nat} (h : n % 2 = 1) (h1 : 1000 < n) (h2 : n ≤ 1000000) : tst n = true := by
  have key : ∀ b, b % 2 = 1 → chk b 9990 = true → b ≤ n → n < b + 19980 → tst n = true := fun b hb hc h3 h4 => by
    have := chk_out hc (i := (n - b) / 2) (by omega)
    rwa [show b + 2 * ((n - b) / 2) = n by omega] at this
  by_cases g0 : n < 20981
  · exact key 1001 (by decide) chk0 (by omega) (by omega)
  by_cases g1 : n < 40961
  · exact key 20981 (by decide) chk1 (by omega) (by omega)
  by_cases g2 : n < 60941
  · exact key 40961 (by decide) chk2 (by omega) (by omega)
  by_cases g3 : n < 80921
  · exact key 60941 (by decide) chk3 (by omega) (by omega)
  by_cases g4 : n < 100901
  · exact key 80921 (by decide) chk4 (by omega) (by omega)
  by_cases g5 : n < 120881
  · exact key 100901 (by decide) chk5 (by omega) (by omega)
  by_cases g6 : n < 140861
  · exact key 120881 (by decide) chk6 (by omega) (by omega)
  by_cases g7 : n < 160841
  · exact key 140861 (by decide) chk7 (by omega) (by omega)
  by_cases g8 : n < 180821
  · exact key 160841 (by decide) chk8 (by omega) (by omega)
  by_cases g9 : n < 200801
  · exact key 180821 (by decide) chk9 (by omega) (by omega)
  by_cases g10 : n < 220781
  · exact key 200801 (by decide) chk10 (by omega) (by omega)
  by_cases g11 : n < 240761
  · exact key 220781 (by decide) chk11 (by omega) (by omega)
  by_cases g12 : n < 260741
  · exact key 240761 (by decide) chk12 (by omega) (by omega)
  by_cases g13 : n < 280721
  · exact key 260741 (by decide) chk13 (by omega) (by omega)
  by_cases g14 : n < 300701
  · exact key 280721 (by decide) chk14 (by omega) (by omega)
  by_cases g15 : n < 320681
  · exact key 300701 (by decide) chk15 (by omega) (by omega)
  by_cases g16 : n < 340661
  · exact key 320681 (by decide) chk16 (by omega) (by omega)
  by_cases g17 : n < 360641
  · exact key 340661 (by decide) chk17 (by omega) (by omega)
  by_cases g18 : n < 380621
  · exact key 360641 (by decide) chk18 (by omega) (by omega)
  by_cases g19 : n < 400601
  · exact key 380621 (by decide) chk19 (by omega) (by omega)
  by_cases g20 : n < 420581
  · exact key 400601 (by decide) chk20 (by omega) (by omega)
  by_cases g21 : n < 440561
  · exact key 420581 (by decide) chk21 (by omega) (by omega)
  by_cases g22 : n < 460541
  · exact key 440561 (by decide) chk22 (by omega) (by omega)
  by_cases g23 : n < 480521
  · exact key 460541 (by decide) chk23 (by omega) (by omega)
  by_cases g24 : n < 500501
  · exact key 480521 (by decide) chk24 (by omega) (by omega)
  by_cases g25 : n < 520481
  · exact key 500501 (by decide) chk25 (by omega) (by omega)
  by_cases g26 : n < 540461
  · exact key 520481 (by decide) chk26 (by omega) (by omega)
  by_cases g27 : n < 560441
  · exact key 540461 (by decide) chk27 (by omega) (by omega)
  by_cases g28 : n < 580421
  · exact key 560441 (by decide) chk28 (by omega) (by omega)
  by_cases g29 : n < 600401
  · exact key 580421 (by decide) chk29 (by omega) (by omega)
  by_cases g30 : n < 620381
  · exact key 600401 (by decide) chk30 (by omega) (by omega)
  by_cases g31 : n < 640361
  · exact key 620381 (by decide) chk31 (by omega) (by omega)
  by_cases g32 : n < 660341
  · exact key 640361 (by decide) chk32 (by omega) (by omega)
  by_cases g33 : n < 680321
  · exact key 660341 (by decide) chk33 (by omega) (by omega)
  by_cases g34 : n < 700301
  · exact key 680321 (by decide) chk34 (by omega) (by omega)
  by_cases g35 : n < 720281
  · exact key 700301 (by decide) chk35 (by omega) (by omega)
  by_cases g36 : n < 740261
  · exact key 720281 (by decide) chk36 (by omega) (by omega)
  by_cases g37 : n < 760241
  · exact key 740261 (by decide) chk37 (by omega) (by omega)
  by_cases g38 : n < 780221
  · exact key 760241 (by decide) chk38 (by omega) (by omega)
  by_cases g39 : n < 800201
  · exact key 780221 (by decide) chk39 (by omega) (by omega)
  by_cases g40 : n < 820181
  · exact key 800201 (by decide) chk40 (by omega) (by omega)
  by_cases g41 : n < 840161
  · exact key 820181 (by decide) chk41 (by omega) (by omega)
  by_cases g42 : n < 860141
  · exact key 840161 (by decide) chk42 (by omega) (by omega)
  by_cases g43 : n < 880121
  · exact key 860141 (by decide) chk43 (by omega) (by omega)
  by_cases g44 : n < 900101
  · exact key 880121 (by decide) chk44 (by omega) (by omega)
  by_cases g45 : n < 920081
  · exact key 900101 (by decide) chk45 (by omega) (by omega)
  by_cases g46 : n < 940061
  · exact key 920081 (by decide) chk46 (by omega) (by omega)
  by_cases g47 : n < 960041
  · exact key 940061 (by decide) chk47 (by omega) (by omega)
  by_cases g48 : n < 980021
  · exact key 960041 (by decide) chk48 (by omega) (by omega)
  exact key 980021 (by decide) chk49 (by omega) (by omega)

theorem cop_all {n : Nat} : ∀ (l : List Nat), (∀ q ∈ l, Nat.gcd n q = 1) → Nat.gcd n (l.foldr (fun a b => a * b) 1) = 1
  | [], _ => Nat.gcd_one_right n
  | a :: l, h => by
    simp only [List.foldr_cons]
    exact Nat.Coprime.mul_right (h a (by simp)) (cop_all l fun q hq => h q (by simp [hq]))
def smallB : Bool := (List.range 1001).all fun d => decide (d < 2) || !Nat.beq (Nat.gcd d primorial) 1
theorem smallB_eq : smallB = true := by decide +kernel
theorem smalls_le : ∀ q ∈ smalls, q ≤ 1000 ∧ 1 ≤ q := by decide +kernel
theorem pr_gcd {n : Nat} (h1 : 1000 < n) (h2 : n ≤ 1000000) : Prm n ↔ Nat.gcd n primorial = 1 := by
  constructor
  · intro hp
    rw [primorial_eq]
    apply cop_all
    intro q hq
    obtain ⟨q1, q2⟩ := smalls_le q hq
    have e1 : Nat.gcd n q ∣ n := Nat.gcd_dvd_left ..
    have e2 : Nat.gcd n q ≤ q := Nat.le_of_dvd (by omega) (Nat.gcd_dvd_right ..)
    have e3 : 0 < Nat.gcd n q := Nat.gcd_pos_of_pos_right _ (by omega)
    generalize Nat.gcd n q = e at *
    by_cases h : e = 1
    · exact h
    · exfalso
      obtain ⟨m, rfl⟩ := e1
      by_cases hs : e * e ≤ e * m
      · exact hp.2 e (by omega) hs (Nat.mul_mod_right e m)
      · have hm : m < e := Nat.lt_of_mul_lt_mul_left (Nat.lt_of_not_le hs)
        have m2 : 2 ≤ m := by
          apply Nat.le_of_not_lt; intro hc
          have : e * m ≤ e * 1 := Nat.mul_le_mul_left e (by omega)
          omega
        exact hp.2 m m2 (Nat.mul_le_mul_right m (by omega)) (Nat.mul_mod_left e m)
  · intro hg
    refine ⟨by omega, fun d hd hs hm => ?_⟩
    have hle : d ≤ 1000 := by
      apply Nat.le_of_not_lt; intro hc
      have : 1001 * 1001 ≤ d * d := Nat.mul_le_mul hc hc
      omega
    have hb := List.all_eq_true.1 smallB_eq d (List.mem_range.2 (by omega))
    simp only [Bool.or_eq_true, decide_eq_true_eq, Bool.not_eq_true'] at hb
    have hb' : ¬ Nat.gcd d primorial = 1 := by
      rcases hb with hb | hb
      · omega
      · exact Nat.ne_of_beq_eq_false hb
    have : Nat.gcd d primorial ∣ Nat.gcd n primorial := Nat.gcd_dvd_gcd_of_dvd_left _ (Nat.dvd_of_mod_eq_zero hm)
    rw [hg] at this
    exact hb' (Nat.dvd_one.1 this)

def prB (n : Nat) : Bool := Nat.ble 2 n && (List.range 32).all fun d => decide (d < 2) || (decide (n < d * d) || !Nat.beq (n % d) 0)
theorem prB_eq {n : Nat} (h : n ≤ 1000) : prB n = true ↔ Prm n := by
  unfold prB Prm
  simp only [Bool.and_eq_true, Nat.ble_eq, List.all_eq_true, List.mem_range, Bool.or_eq_true, decide_eq_true_eq, Bool.not_eq_true']
  constructor
  · rintro ⟨h1, h2⟩
    refine ⟨h1, fun d hd hs hm => ?_⟩
    have : d < 32 := by
      apply Nat.lt_of_not_le; intro hc
      have : 32 * 32 ≤ d * d := Nat.mul_le_mul hc hc
      omega
    rcases h2 d this with h3 | h3 | h3
    · omega
    · omega
    · exact Nat.ne_of_beq_eq_false h3 hm
  · rintro ⟨h1, h2⟩
    refine ⟨h1, fun d _ => ?_⟩
    by_cases h3 : d < 2
    · exact .inl h3
    by_cases h4 : n < d * d
    · exact .inr (.inl h4)
    · exact .inr (.inr (Bool.eq_false_iff.2 fun hc => h2 d (by omega) (by omega) (Nat.eq_of_beq_eq_true hc)))
def fourSmall : Bool := (List.range 1001).all fun n => mrfour n == prB n
theorem fourSmall_eq : fourSmall = true := by decide +kernel
theorem beqf {a b : Nat} (h : ¬ a = b) : Nat.beq a b = false := Bool.eq_false_iff.2 fun hc => h (Nat.eq_of_beq_eq_true hc)
theorem beqt {a b : Nat} (h : a = b) : Nat.beq a b = true := by rw [h]; exact Nat.beq_refl b
theorem four_pr {n : Nat} (h : n ≤ 1000000) : mrfour n = true ↔ Prm n := by
  by_cases hs : n ≤ 1000
  · have := List.all_eq_true.1 fourSmall_eq n (List.mem_range.2 (by omega))
    rw [← prB_eq hs]
    rw [eq_of_beq this]
  · have nd : ∀ d, 2 ≤ d → d ≤ 31 → n % d = 0 → ¬ Prm n := fun d h1 h2 h3 hp =>
      hp.2 d h1 (Nat.le_trans (Nat.mul_le_mul h2 h2) (by omega)) h3
    have b2 : Nat.ble 2 n = true := by rw [Nat.ble_eq]; omega
    have n2 : Nat.beq n 2 = false := beqf (by omega)
    have n3 : Nat.beq n 3 = false := beqf (by omega)
    have n5 : Nat.beq n 5 = false := beqf (by omega)
    have n7 : Nat.beq n 7 = false := beqf (by omega)
    simp only [mrfour, mrbase, b2, n2, n3, n5, n7, Bool.true_and, Bool.false_or, Bool.and_true]
    by_cases m2 : n % 2 = 0
    · rw [beqt m2]; simp only [Bool.not_true, Bool.false_and, Bool.false_eq_true, false_iff]; exact nd 2 (by omega) (by omega) m2
    by_cases m3 : n % 3 = 0
    · rw [beqt m3]; simp only [Bool.not_true, Bool.false_and, Bool.and_false, Bool.false_eq_true, false_iff]; exact nd 3 (by omega) (by omega) m3
    by_cases m5 : n % 5 = 0
    · rw [beqt m5]; simp only [Bool.not_true, Bool.false_and, Bool.and_false, Bool.false_eq_true, false_iff]; exact nd 5 (by omega) (by omega) m5
    by_cases m7 : n % 7 = 0
    · rw [beqt m7]; simp only [Bool.not_true, Bool.false_and, Bool.and_false, Bool.false_eq_true, false_iff]; exact nd 7 (by omega) (by omega) m7
    have ht := tst_all (n := n) (by omega) (by omega) h
    simp only [tst, mr, strongQ_eq, beqf m3, beqf m5, beqf m7, Bool.false_or] at ht
    rw [beqf m2, beqf m3, beqf m5, beqf m7, pr_gcd (by omega) h]
    simp only [Bool.not_false, Bool.true_and]
    by_cases hg : Nat.gcd n primorial = 1
    · rw [beqt hg, cond_true] at ht
      rw [ht]; simp [hg]
    · rw [beqf hg, cond_false, Bool.not_eq_true'] at ht
      rw [ht]; simp [hg]
end Go.Proofs.Ythajaabgcbjfkaa
