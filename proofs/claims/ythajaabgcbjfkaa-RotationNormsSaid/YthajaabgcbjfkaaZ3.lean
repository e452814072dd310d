/- The law RotationNorms: the walk. -/
import Derived.Test.YthajaabgcbjfkaaB3
import Derived.Test.YthajaabgcbjfkaaW1
namespace Go.Proofs.Ythajaabgcbjfkaa
open Go.RowKit

/-- The sum of the first j odd numbers that divide n. -/
def oddS (n : Nat) : Nat → Nat
  | 0 => 0
  | j + 1 => oddS n j + if n % (2 * j + 1) = 0 then 2 * j + 1 else 0
theorem oddS_le (n : Nat) : ∀ j, oddS n j ≤ j * (2 * j + 1)
  | 0 => by simp [oddS]
  | j + 1 => by
    have h := oddS_le n j
    have e : (j + 1) * (2 * (j + 1) + 1) = j * (2 * j + 1) + (4 * j + 3) := by grind
    unfold oddS
    split <;> omega
theorem norm_sums : (List.range 30).all (fun i => (ofNormE (i + 1)).length == oddS (i + 1) ((i + 2) / 2) && decide (1 ≤ (ofNormE (i + 1)).length)) = true := by decide +kernel
theorem norm_sum {n : Nat} (h1 : 1 ≤ n) (h2 : n ≤ 30) : (ofNormC n).length = oddS n ((n + 1) / 2) ∧ 1 ≤ (ofNormC n).length := by
  have h := List.all_eq_true.1 norm_sums (n - 1) (List.mem_range.2 (by omega))
  simp only [Bool.and_eq_true, beq_iff_eq, decide_eq_true_eq] at h
  rw [show n - 1 + 1 = n by omega, show n - 1 + 2 = n + 1 by omega, ← ofNormE_eq] at h
  exact h

set_option maxRecDepth 10000 in
set_option maxHeartbeats 1000000 in
theorem norms_mid (n : Int) (h1 : 30 < n) (h2 : n ≤ 500) (w : World) :
    Calls Try.prog 4 #[.int .i64 n] w fun e w' => e = .returned (.bool true) ∧ Below w.heap.size w w' := by
  go_enter Try.func4, Try.ntmps4
  go_wp2_with (first | (go_at_call 14; with_reducible refine (awake_any _).mono ?_; rintro e w1 ⟨rfl, hb1⟩; obtain ⟨g1, rfl⟩ := more_of_below hb1; clear hb1))
  go_ret
  exact ⟨rfl, by (repeat (first | with_reducible assumption | with_reducible exact Below.refl _ _ | with_reducible refine Below.drewN ?_ _ | with_reducible refine Below.drew ?_ | with_reducible refine Below.alloc ?_ (by first | omega | (simp; done) | (simp; omega)) _ | with_reducible refine Below.setCell ?_ (by first | omega | (simp; done) | (simp; omega)) _ | with_reducible refine below_more _ _ ?_ (by first | omega | (simp; done) | (simp; omega))))⟩
set_option maxRecDepth 10000 in
set_option maxHeartbeats 1000000 in
theorem norms_out (n : Int) (h : n < 1 ∨ 500 < n) (w : World) :
    Calls Try.prog 4 #[.int .i64 n] w fun e w' => e = .returned (.bool true) ∧ Below w.heap.size w w' := by
  have hi : inB n 1 500 = false := decide_eq_false (by omega)
  have HP := Lib.hid (pofNorm_err n h)
  have HI := Lib.hid (fun w => within_any n 1 500 w)
  rw [hi] at HI
  by_cases h0 : n < 1
  · have h3 : ¬ 30 < n := by omega
    clear hi h
    go_enter Try.func4, Try.ntmps4
    go_wp2_with (first | (go_at_call 14; with_reducible refine (awake_any _).mono ?_; rintro e w1 ⟨rfl, hb1⟩; obtain ⟨g1, rfl⟩ := more_of_below hb1; clear hb1) | (go_at_call 24; with_reducible refine (HP.out _).mono ?_; rintro e w2 ⟨rfl, hb2⟩; obtain ⟨g2, rfl⟩ := more_of_below hb2; clear hb2) | (go_at_call 25; with_reducible refine (HI.out _).mono ?_; rintro e w' ⟨rfl, rfl⟩))
    go_ret
    exact ⟨rfl, by (repeat (first | with_reducible assumption | with_reducible exact Below.refl _ _ | with_reducible refine Below.drewN ?_ _ | with_reducible refine Below.drew ?_ | with_reducible refine Below.alloc ?_ (by first | omega | (simp; done) | (simp; omega)) _ | with_reducible refine Below.setCell ?_ (by first | omega | (simp; done) | (simp; omega)) _ | with_reducible refine below_more _ _ ?_ (by first | omega | (simp; done) | (simp; omega))))⟩
  · have h3 : 30 < n := by omega
    have h4 : ¬ n ≤ 500 := by omega
    clear hi h
    go_enter Try.func4, Try.ntmps4
    go_wp2_with (first | (go_at_call 14; with_reducible refine (awake_any _).mono ?_; rintro e w1 ⟨rfl, hb1⟩; obtain ⟨g1, rfl⟩ := more_of_below hb1; clear hb1) | (go_at_call 24; with_reducible refine (HP.out _).mono ?_; rintro e w2 ⟨rfl, hb2⟩; obtain ⟨g2, rfl⟩ := more_of_below hb2; clear hb2) | (go_at_call 25; with_reducible refine (HI.out _).mono ?_; rintro e w' ⟨rfl, rfl⟩))
    go_ret
    exact ⟨rfl, by (repeat (first | with_reducible assumption | with_reducible exact Below.refl _ _ | with_reducible refine Below.drewN ?_ _ | with_reducible refine Below.drew ?_ | with_reducible refine Below.alloc ?_ (by first | omega | (simp; done) | (simp; omega)) _ | with_reducible refine Below.setCell ?_ (by first | omega | (simp; done) | (simp; omega)) _ | with_reducible refine below_more _ _ ?_ (by first | omega | (simp; done) | (simp; omega))))⟩

set_option maxRecDepth 10000 in
set_option maxHeartbeats 2000000 in
theorem norms_in (n : Nat) (h1 : 1 ≤ n) (h2 : n ≤ 30) (R : List Qt) (A : List Qd) (hA : R.map Qt.toQ = A) (hl : R.length < 1000000) (hs : A.length = oddS n ((n + 1) / 2)) (hi : ∀ q ∈ R, q.InR ∧ Qt.Hz q)
    (cp : ∀ w, Calls Try.prog 24 #[.int .i64 ((n : Int))] w fun e w' => ∃ v, e = .returned (.tuple #[v, .int .i64 0]) ∧ OwnD w' w.heap.size v A ∧ Below w.heap.size w w')
    (cr : ∀ w, Calls Try.prog 28 #[.int .i64 ((n : Int))] w fun e w' => ∃ v, e = .returned v ∧ OwnR w' w.heap.size v R ∧ Below w.heap.size w w') (w : World) :
    Calls Try.prog 4 #[.int .i64 ((n : Int))] w fun e w' => e = .returned (.bool true) ∧ Below w.heap.size w w' := by
  have hAl : A.length < 1000000 := by rw [← hA, List.length_map]; exact hl
  have CP := Lib.hid cp
  have CR := Lib.hid cr
  have HI := Lib.hid hi
  have HA := Lib.hid hA
  have HS := Lib.hid hs
  have hin : inB n 1 500 = true := decide_eq_true (by omega)
  have CW := Lib.hid (fun w => within_any n 1 500 w)
  rw [hin] at CW
  have h3 : ¬ 30 < (n : Int) := by omega
  clear cp cr hi hA hs hin
  go_enter Try.func4, Try.ntmps4
  go_wp2_with (first | (go_at_call 14; with_reducible refine (awake_any _).mono ?_; rintro e w1 ⟨rfl, hb1⟩; obtain ⟨g1, rfl⟩ := more_of_below hb1; clear hb1) | (go_at_call 24; refine (CP.out _).mono ?_; rintro e w2 ⟨v2, rfl, hown, hb2⟩; obtain ⟨a2, c2, hv⟩ := hown.rd.len; subst hv; have HO := Lib.hid hown; clear hown; obtain ⟨g2, rfl⟩ := more_of_below hb2; clear hb2) | (go_at_call 25; with_reducible refine (CW.out _).mono ?_; rintro e w' ⟨rfl, rfl⟩))
  go_loop [5, 6] (fun s i => ∃ j : Nat, j ≤ 16 ∧ 2 * j ≤ n + 1 ∧ s = .int .i64 ((oddS n j : Nat) : Int) ∧ i = .int .i64 ((2 * j + 1 : Nat) : Int)) (fun _ i => 40 - (intOf i).toNat)
  case atStart => exact ⟨0, by omega, by omega, rfl, rfl⟩
  case round =>
    obtain ⟨j, hj, hjn, rfl, rfl⟩ := hrel
    have hle := oddS_le n j
    have hle2 : j * (2 * j + 1) ≤ 16 * 33 := Nat.mul_le_mul hj (by omega)
    have hle3 : oddS n j ≤ 528 := by omega
    clear hle hle2
    have hsn : oddS n (j + 1) = oddS n j + if n % (2 * j + 1) = 0 then 2 * j + 1 else 0 := rfl
    by_cases hc : 2 * j + 1 ≤ n
    · have hm : ((n % (2 * j + 1) : Nat) : Int) = (n : Int) % ((2 * j + 1 : Nat) : Int) := Int.natCast_emod _ _
      generalize n % (2 * j + 1) = r at *
      generalize hI : ((2 * j + 1 : Nat) : Int) = I at *
      have hI0 : ¬ I = 0 := by omega
      have hIp : 0 ≤ I := by omega
      have hIn : I ≤ (n : Int) := by omega
      by_cases hd : r = 0
      · have ht : ((n : Int) % I == 0) = true := by rw [← hm, hd]; rfl
        rw [if_pos hd] at hsn
        generalize oddS n j = s at *
        have HH := Lib.hid hsn
        have HX := Lib.hid hI
        clear hsn hI hm hd
        go_wp2
        go_round
        case rel => have h1 := HH.out; have h2 := HX.out; exact ⟨j + 1, by omega, by omega, by rw [h1]; go_num, by go_num⟩
        case measure => have h2 := HX.out; simp [intOf]; omega
      · have ht : ((n : Int) % I == 0) = false := by rw [← hm]; exact beq_false_of_ne (by omega)
        rw [if_neg hd] at hsn
        generalize oddS n j = s at *
        have HH := Lib.hid hsn
        have HX := Lib.hid hI
        clear hsn hI hm hd
        go_wp2
        go_round
        case rel => have h1 := HH.out; have h2 := HX.out; exact ⟨j + 1, by omega, by omega, by rw [h1]; go_num, by go_num⟩
        case measure => have h2 := HX.out; simp [intOf]; omega
    · have hjj : j = (n + 1) / 2 := by omega
      have hc2 : ¬ ((2 * j + 1 : Nat) : Int) ≤ (n : Int) := by omega
      generalize ((2 * j + 1 : Nat) : Int) = I at *
      have hs : A.length = oddS n j := by rw [hjj]; exact HS.out
      rw [← hs]
      clear hsn hs hjj hc HS
      have hb : decide (A = R.map Qt.toQ) = true := decide_eq_true HA.out.symm
      go_wp2_with (first | (go_at_call 28; refine (CR.out _).mono ?_; rintro e w3 ⟨v3, rfl, hr, hb3⟩; have HR := Lib.hid hr.rdr; clear hr; obtain ⟨g3, rfl⟩ := more_of_below hb3; clear hb3) | (go_at_call 27; refine (rquats_any HR.out hl HI.out).mono ?_; rintro e w4 ⟨v4, rfl, hq, hb4⟩; have HQ := Lib.hid hq.rd; clear hq; obtain ⟨g4, rfl⟩ := more_of_below hb4; clear hb4) | (go_at_call 26; refine (same_any (((HO.out.mor g3).mor g4).rd) HQ.out hAl (by rw [List.length_map]; exact hl)).mono ?_; rw [hb]; rintro e w5 ⟨rfl, hb5⟩; obtain ⟨g5, rfl⟩ := more_of_below hb5; clear hb5))
      go_ret
      exact ⟨rfl, by (repeat (first | with_reducible assumption | with_reducible exact Below.refl _ _ | with_reducible refine Below.drewN ?_ _ | with_reducible refine Below.drew ?_ | with_reducible refine Below.alloc ?_ (by first | omega | (simp; done) | (simp; omega)) _ | with_reducible refine Below.setCell ?_ (by first | omega | (simp; done) | (simp; omega)) _ | with_reducible refine below_more _ _ ?_ (by first | omega | (simp; done) | (simp; omega))))⟩

theorem law_norms (n : Int) (_b1 : -9223372036854775808 ≤ n) (_b2 : n ≤ 9223372036854775807) (w : World) :
    Calls Try.prog 4 #[.int .i64 n] w fun e w' => e = .returned (.bool true) ∧ Below w.heap.size w w' := by
  by_cases h1 : 1 ≤ n
  · by_cases h2 : n ≤ 30
    · obtain ⟨k, rfl⟩ : ∃ k : Nat, n = k := ⟨n.toNat, by omega⟩
      have k1 : 1 ≤ k := by omega
      have k2 : k ≤ 30 := by omega
      obtain ⟨s1, s2⟩ := norm_sum k1 k2
      have hm : ∀ q ∈ ofNormC k, q ∈ allH k := fun q hq => by
        rw [ofNorm_eq k1] at hq
        exact List.mem_reverse.1 (List.mem_filter.1 hq).1
      refine norms_in k k1 k2 (ofNormC k) _ rfl (ofNormC_len (by omega)) (by rw [List.length_map]; exact s1) (fun q hq => ⟨ofNormC_in k1 (by omega) q hq, (mem_allH.1 (hm q hq)).1⟩)
        (pofNorm_ok k k1 (by omega)) (rofNorm_any k k1 k2 fun h => ?_) w
      cases hL : ofNormC k with
      | nil => rw [hL] at s2; simp at s2
      | cons q l =>
        have := hm q (by rw [hL]; simp)
        rw [h] at this
        cases this
    · by_cases h3 : n ≤ 500
      · exact norms_mid n (by omega) h3 w
      · exact norms_out n (by omega) w
  · exact norms_out n (by omega) w
end Go.Proofs.Ythajaabgcbjfkaa
