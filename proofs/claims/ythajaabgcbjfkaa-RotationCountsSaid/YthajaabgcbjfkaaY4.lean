/- Contract: Permutation. -/
import Derived.Test.YthajaabgcbjfkaaY3
import Derived.Test.YthajaabgcbjfkaaY2
import Derived.Test.YthajaabgcbjfkaaN3
import Derived.Test.YthajaabgcbjfkaaB6
namespace Go.Proofs.Ythajaabgcbjfkaa
open Go.RowKit
attribute [local go_sem ↓] Go.wp_at_zero Go.wp_at_succ

theorem take_snocN {α : Type} {l : List α} {k : Nat} {x : α} (h : l[k]? = some x) : l.take (k + 1) = l.take k ++ [x] := by
  rw [List.take_add_one, h]; rfl
theorem H4.two' {w w' : World} {g k : Nat} {q : Qt} {B : Nat} (h : H4 w g k q) (hb : Below B w w') (hg : g < B) : H4 w' g k q := h.below hb hg
set_option maxRecDepth 10000 in
set_option maxHeartbeats 2000000 in
theorem pperm_err (x : Qd) (p : Int) (h : x.oerr ≠ 0) (w : World) :
    Calls Try.prog 55 #[.agg #[.int .i64 x.w, .int .i64 x.x, .int .i64 x.y, .int .i64 x.z, .int .i64 x.d], .int .i64 p] w fun e w' => e = .returned (.tuple #[.slice none 0 0, .int .i64 x.oerr]) ∧ Below w.heap.size w w' := by
  have h' : oerrL [x] ≠ 0 := by rw [oerrL_one]; exact h
  have HO := Lib.hid (fun W m hm => open_err1 x W h' (m := m) hm)
  rw [oerrL_one] at HO
  go_enter Try.func55, Try.ntmps55
  go_wp2_with (first | (go_at_call 64; with_reducible refine (HO.out _ _ (by simp)).mono ?_; rintro e w1 ⟨rfl, hb1⟩; obtain ⟨g1, rfl⟩ := more_of_below hb1; clear hb1))
  refine bodyPost_ret (v := .tuple #[.slice none 0 0, .int .i64 x.oerr]) (by simp [results, Try.results55, go_sem]) rfl ⟨rfl, by (repeat (first | with_reducible assumption | with_reducible exact Below.refl _ _ | with_reducible refine Below.drewN ?_ _ | with_reducible refine Below.drew ?_ | with_reducible refine Below.alloc ?_ (by first | omega | (simp; done) | (simp; omega)) _ | with_reducible refine Below.setCell ?_ (by first | omega | (simp; done) | (simp; omega)) _ | with_reducible refine below_more _ _ ?_ (by first | omega | (simp; done) | (simp; omega))))⟩
section
variable (x : Qd) (X : Qt) (N : Int) 
  (ho : ∀ (W : World) (m : Nat), m = W.heap.size → Calls Try.prog 64 #[.slice (some ⟨m, 0, none⟩) 1 1] (W.alloc (.cells #[.int .i64 x.w, .int .i64 x.x, .int .i64 x.y, .int .i64 x.z, .int .i64 x.d] 23)) fun e w' => ∃ g cap, e = .returned (.tuple #[.slice (some ⟨g, 0, none⟩) 1 cap, .int .i64 0]) ∧ (g < w'.heap.size ∧ H4 w' g 0 X) ∧ Below (W.alloc (.cells #[.int .i64 x.w, .int .i64 x.x, .int .i64 x.y, .int .i64 x.z, .int .i64 x.d] 23)).heap.size (W.alloc (.cells #[.int .i64 x.w, .int .i64 x.x, .int .i64 x.y, .int .i64 x.z, .int .i64 x.d] 23)) w')
  (cn : ∀ w, Calls Try.prog 79 #[.agg #[.int .i64 X.w, .int .i64 X.x, .int .i64 X.y, .int .i64 X.z]] w fun e w' => e = .returned (.int .i64 N) ∧ Below w.heap.size w w')
include ho cn
set_option maxRecDepth 10000 in
set_option maxHeartbeats 2000000 in
theorem perm_zero (p : Int) (h0 : N = 0) (w : World) :
    Calls Try.prog 55 #[.agg #[.int .i64 x.w, .int .i64 x.x, .int .i64 x.y, .int .i64 x.z, .int .i64 x.d], .int .i64 p] w fun e w' => e = .returned (.tuple #[.slice none 0 0, .int .i64 10]) ∧ Below w.heap.size w w' := by
  have HO := Lib.hid ho; have CN := Lib.hid cn
  clear ho cn
  have eN : (N == 0) = true := by simpa using h0
  go_enter Try.func55, Try.ntmps55
  go_wp2_with (first | (go_at_call 64; refine (HO.out _ _ (by simp)).mono ?_; rintro e w1 ⟨g, cap, rfl, ⟨hg, ⟨c0, c1, c2, c3⟩⟩, hb1⟩; obtain ⟨g1, rfl⟩ := more_of_below hb1; clear hb1; simp only [size_more_eq, World.size_alloc] at hg) | (go_at_call 79; with_reducible refine (CN.out _).mono ?_; rintro e w2 ⟨rfl, hb2⟩; obtain ⟨g2, rfl⟩ := more_of_below hb2; clear hb2))
  refine bodyPost_ret (v := .tuple #[.slice none 0 0, .int .i64 10]) (by simp [results, Try.results55, go_sem]) rfl ⟨rfl, by (repeat (first | with_reducible assumption | with_reducible exact Below.refl _ _ | with_reducible refine Below.drewN ?_ _ | with_reducible refine Below.drew ?_ | with_reducible refine Below.alloc ?_ (by first | omega | (simp; done) | (simp; omega)) _ | with_reducible refine Below.setCell ?_ (by first | omega | (simp; done) | (simp; omega)) _ | with_reducible refine below_more _ _ ?_ (by first | omega | (simp; done) | (simp; omega))))⟩
set_option maxRecDepth 10000 in
set_option maxHeartbeats 2000000 in
theorem perm_big (p : Int) (h0 : ¬ N = 0) (hp : 500 < p) (w : World) :
    Calls Try.prog 55 #[.agg #[.int .i64 x.w, .int .i64 x.x, .int .i64 x.y, .int .i64 x.z, .int .i64 x.d], .int .i64 p] w fun e w' => e = .returned (.tuple #[.slice none 0 0, .int .i64 11]) ∧ Below w.heap.size w w' := by
  have HO := Lib.hid ho; have CN := Lib.hid cn
  clear ho cn
  have eN : (N == 0) = false := by simpa using h0
  go_enter Try.func55, Try.ntmps55
  go_wp2_with (first | (go_at_call 64; refine (HO.out _ _ (by simp)).mono ?_; rintro e w1 ⟨g, cap, rfl, ⟨hg, ⟨c0, c1, c2, c3⟩⟩, hb1⟩; obtain ⟨g1, rfl⟩ := more_of_below hb1; clear hb1; simp only [size_more_eq, World.size_alloc] at hg) | (go_at_call 79; with_reducible refine (CN.out _).mono ?_; rintro e w2 ⟨rfl, hb2⟩; obtain ⟨g2, rfl⟩ := more_of_below hb2; clear hb2))
  refine bodyPost_ret (v := .tuple #[.slice none 0 0, .int .i64 11]) (by simp [results, Try.results55, go_sem]) rfl ⟨rfl, by (repeat (first | with_reducible assumption | with_reducible exact Below.refl _ _ | with_reducible refine Below.drewN ?_ _ | with_reducible refine Below.drew ?_ | with_reducible refine Below.alloc ?_ (by first | omega | (simp; done) | (simp; omega)) _ | with_reducible refine Below.setCell ?_ (by first | omega | (simp; done) | (simp; omega)) _ | with_reducible refine below_more _ _ ?_ (by first | omega | (simp; done) | (simp; omega))))⟩
set_option maxRecDepth 10000 in
set_option maxHeartbeats 2000000 in
theorem perm_comp (p : Int) (h0 : ¬ N = 0) (hp : ¬ 500 < p) (cp : ∀ w, Calls Try.prog 102 #[.int .i64 p] w fun e w' => e = .returned (.bool false) ∧ Below w.heap.size w w') (w : World) :
    Calls Try.prog 55 #[.agg #[.int .i64 x.w, .int .i64 x.x, .int .i64 x.y, .int .i64 x.z, .int .i64 x.d], .int .i64 p] w fun e w' => e = .returned (.tuple #[.slice none 0 0, .int .i64 11]) ∧ Below w.heap.size w w' := by
  have HO := Lib.hid ho; have CN := Lib.hid cn; have CP := Lib.hid cp
  clear ho cn cp
  have eN : (N == 0) = false := by simpa using h0
  go_enter Try.func55, Try.ntmps55
  go_wp2_with (first | (go_at_call 64; refine (HO.out _ _ (by simp)).mono ?_; rintro e w1 ⟨g, cap, rfl, ⟨hg, ⟨c0, c1, c2, c3⟩⟩, hb1⟩; obtain ⟨g1, rfl⟩ := more_of_below hb1; clear hb1; simp only [size_more_eq, World.size_alloc] at hg) | (go_at_call 79; with_reducible refine (CN.out _).mono ?_; rintro e w2 ⟨rfl, hb2⟩; obtain ⟨g2, rfl⟩ := more_of_below hb2; clear hb2) | (go_at_call 102; with_reducible refine (CP.out _).mono ?_; rintro e w3 ⟨rfl, hb3⟩; obtain ⟨g3, rfl⟩ := more_of_below hb3; clear hb3))
  refine bodyPost_ret (v := .tuple #[.slice none 0 0, .int .i64 11]) (by simp [results, Try.results55, go_sem]) rfl ⟨rfl, by (repeat (first | with_reducible assumption | with_reducible exact Below.refl _ _ | with_reducible refine Below.drewN ?_ _ | with_reducible refine Below.drew ?_ | with_reducible refine Below.alloc ?_ (by first | omega | (simp; done) | (simp; omega)) _ | with_reducible refine Below.setCell ?_ (by first | omega | (simp; done) | (simp; omega)) _ | with_reducible refine below_more _ _ ?_ (by first | omega | (simp; done) | (simp; omega))))⟩
section
variable (hN : 0 ≤ N ∧ N ≤ 1000000) (p : Int) (h0 : ¬ N = 0) (hp : 2 ≤ p ∧ p ≤ 500) (cp : ∀ w, Calls Try.prog 102 #[.int .i64 p] w fun e w' => e = .returned (.bool true) ∧ Below w.heap.size w w')
include hN h0 hp cp
set_option maxRecDepth 10000 in
set_option maxHeartbeats 2000000 in
theorem perm_div (hd : N % p = 0) (w : World) :
    Calls Try.prog 55 #[.agg #[.int .i64 x.w, .int .i64 x.x, .int .i64 x.y, .int .i64 x.z, .int .i64 x.d], .int .i64 p] w fun e w' => e = .returned (.tuple #[.slice none 0 0, .int .i64 11]) ∧ Below w.heap.size w w' := by
  have HO := Lib.hid ho; have CN := Lib.hid cn; have CP := Lib.hid cp
  clear ho cn cp
  have eN : (N == 0) = false := by simpa using h0
  have e1 : (N % p == 0) = true := by simpa using hd
  have e2 : (N.tmod p == 0) = true := by rw [Int.tmod_eq_emod_of_nonneg (by omega)]; exact e1
  have p0 : ¬ p = 0 := by omega
  go_enter Try.func55, Try.ntmps55
  go_wp2_with (first | (go_at_call 64; refine (HO.out _ _ (by simp)).mono ?_; rintro e w1 ⟨g, cap, rfl, ⟨hg, ⟨c0, c1, c2, c3⟩⟩, hb1⟩; obtain ⟨g1, rfl⟩ := more_of_below hb1; clear hb1; simp only [size_more_eq, World.size_alloc] at hg) | (go_at_call 79; with_reducible refine (CN.out _).mono ?_; rintro e w2 ⟨rfl, hb2⟩; obtain ⟨g2, rfl⟩ := more_of_below hb2; clear hb2) | (go_at_call 102; with_reducible refine (CP.out _).mono ?_; rintro e w3 ⟨rfl, hb3⟩; obtain ⟨g3, rfl⟩ := more_of_below hb3; clear hb3))
  refine bodyPost_ret (v := .tuple #[.slice none 0 0, .int .i64 11]) (by simp [results, Try.results55, go_sem]) rfl ⟨rfl, by (repeat (first | with_reducible assumption | with_reducible exact Below.refl _ _ | with_reducible refine Below.drewN ?_ _ | with_reducible refine Below.drew ?_ | with_reducible refine Below.alloc ?_ (by first | omega | (simp; done) | (simp; omega)) _ | with_reducible refine Below.setCell ?_ (by first | omega | (simp; done) | (simp; omega)) _ | with_reducible refine below_more _ _ ?_ (by first | omega | (simp; done) | (simp; omega))))⟩
variable (hd : ¬ N % p = 0)
include hd
set_option maxRecDepth 10000 in
set_option maxHeartbeats 2000000 in
theorem perm_large (hl : 1000000 < p * N) (w : World) :
    Calls Try.prog 55 #[.agg #[.int .i64 x.w, .int .i64 x.x, .int .i64 x.y, .int .i64 x.z, .int .i64 x.d], .int .i64 p] w fun e w' => e = .returned (.tuple #[.slice none 0 0, .int .i64 8]) ∧ Below w.heap.size w w' := by
  have HO := Lib.hid ho; have CN := Lib.hid cn; have CP := Lib.hid cp
  clear ho cn cp
  have eN : (N == 0) = false := by simpa using h0
  have e1 : (N % p == 0) = false := by simpa using hd
  have e2 : (N.tmod p == 0) = false := by rw [Int.tmod_eq_emod_of_nonneg (by omega)]; exact e1
  have p0 : ¬ p = 0 := by omega
  have p1 : p * N ≤ 500 * 1000000 := Int.mul_le_mul hp.2 hN.2 hN.1 (by omega)
  go_enter Try.func55, Try.ntmps55
  go_wp2_with (first | (go_at_call 64; refine (HO.out _ _ (by simp)).mono ?_; rintro e w1 ⟨g, cap, rfl, ⟨hg, ⟨c0, c1, c2, c3⟩⟩, hb1⟩; obtain ⟨g1, rfl⟩ := more_of_below hb1; clear hb1; simp only [size_more_eq, World.size_alloc] at hg) | (go_at_call 79; with_reducible refine (CN.out _).mono ?_; rintro e w2 ⟨rfl, hb2⟩; obtain ⟨g2, rfl⟩ := more_of_below hb2; clear hb2) | (go_at_call 102; with_reducible refine (CP.out _).mono ?_; rintro e w3 ⟨rfl, hb3⟩; obtain ⟨g3, rfl⟩ := more_of_below hb3; clear hb3))
  refine bodyPost_ret (v := .tuple #[.slice none 0 0, .int .i64 8]) (by simp [results, Try.results55, go_sem]) rfl ⟨rfl, by (repeat (first | with_reducible assumption | with_reducible exact Below.refl _ _ | with_reducible refine Below.drewN ?_ _ | with_reducible refine Below.drew ?_ | with_reducible refine Below.alloc ?_ (by first | omega | (simp; done) | (simp; omega)) _ | with_reducible refine Below.setCell ?_ (by first | omega | (simp; done) | (simp; omega)) _ | with_reducible refine below_more _ _ ?_ (by first | omega | (simp; done) | (simp; omega))))⟩
set_option maxRecDepth 10000 in
set_option maxHeartbeats 8000000 in
theorem perm_ok (hl : ¬ 1000000 < p * N) (L S : List Qt) (J : List Nat) (hL : L.length < 1000000) (hL0 : L ≠ []) (lS : S.length = L.length) (lJ : J.length = L.length)
    (ca : ∀ w, Calls Try.prog 74 #[.int .i64 p] w fun e w' => ∃ v, e = .returned v ∧ OwnH w' w.heap.size v L ∧ Below w.heap.size w w')
    (ce : ∀ (k : Nat) (y s : Qt), L[k]? = some y → S[k]? = some s → ∃ t : Qt, ∀ w, Calls Try.prog 82 #[.agg #[.int .i64 X.w, .int .i64 X.x, .int .i64 X.y, .int .i64 X.z], .agg #[.int .i64 y.w, .int .i64 y.x, .int .i64 y.y, .int .i64 y.z]] w fun e w' => e = .returned (.tuple #[.agg #[.int .i64 s.w, .int .i64 s.x, .int .i64 s.y, .int .i64 s.z], .agg #[.int .i64 t.w, .int .i64 t.x, .int .i64 t.y, .int .i64 t.z]]) ∧ Below w.heap.size w w')
    (ci : ∀ (k : Nat) (s : Qt) (j : Nat), S[k]? = some s → J[k]? = some j → L[j]? = some s ∧ ∀ i, i < j → L[i]? ≠ some s) (w : World) :
    Calls Try.prog 55 #[.agg #[.int .i64 x.w, .int .i64 x.x, .int .i64 x.y, .int .i64 x.z, .int .i64 x.d], .int .i64 p] w fun e w' => ∃ v, e = .returned (.tuple #[v, .int .i64 0]) ∧ OwnZ w' w.heap.size v (J.map fun (j : Nat) => (j : Int)) ∧ Below w.heap.size w w' := by
  have HO := Lib.hid ho; have CN := Lib.hid cn; have CP := Lib.hid cp; have CA := Lib.hid ca; have CE : Hid _ := ce; have CI : Hid _ := ci
  clear ho cn cp ca ce ci
  have eN : (N == 0) = false := by simpa using h0
  have e1 : (N % p == 0) = false := by simpa using hd
  have e2 : (N.tmod p == 0) = false := by rw [Int.tmod_eq_emod_of_nonneg (by omega)]; exact e1
  have p0 : ¬ p = 0 := by omega
  have p1 : 0 ≤ p * N := Int.mul_nonneg (by omega) hN.1
  go_enter Try.func55, Try.ntmps55
  go_wp2_with (first | (go_at_call 64; refine (HO.out _ _ (by simp)).mono ?_; rintro e w1 ⟨g, cap, rfl, ⟨hg, ⟨c0, c1, c2, c3⟩⟩, hb1⟩; obtain ⟨g1, rfl⟩ := more_of_below hb1; clear hb1; simp only [size_more_eq, World.size_alloc] at hg) | (go_at_call 79; with_reducible refine (CN.out _).mono ?_; rintro e w2 ⟨rfl, hb2⟩; obtain ⟨g2, rfl⟩ := more_of_below hb2; clear hb2) | (go_at_call 102; with_reducible refine (CP.out _).mono ?_; rintro e w3 ⟨rfl, hb3⟩; obtain ⟨g3, rfl⟩ := more_of_below hb3; clear hb3) | (go_at_call 74; refine (CA.out _).mono ?_; rintro e W0 ⟨v4, rfl, hown, hb4⟩; obtain ⟨g4, cap4, rfl, _, hg4, _⟩ := hown.slice hL0; have HOW := Lib.hid hown; have HBW := Lib.hid hb4; clear hown hb4))
  have hb4 := HBW.out
  have hB0 : Below w.heap.size w W0 := Below.trans (by (repeat (first | with_reducible assumption | with_reducible exact Below.refl _ _ | with_reducible refine Below.drewN ?_ _ | with_reducible refine Below.drew ?_ | with_reducible refine Below.alloc ?_ (by first | omega | (simp; done) | (simp; omega)) _ | with_reducible refine Below.setCell ?_ (by first | omega | (simp; done) | (simp; omega)) _ | with_reducible refine below_more _ _ ?_ (by first | omega | (simp; done) | (simp; omega))))) (hb4.mono (by simp; omega))
  have hg0 : g < W0.heap.size := Nat.lt_of_lt_of_le (by simp; omega) hb4.size
  have z0 : H4 W0 g 0 X := (((H4.mk c0 c1 c2 c3).mor (by simp; omega) g2).mor (by simp; omega) g3).below hb4 (by simp; omega)
  have ZL : Hid (∀ k q, L[k]? = some q → H4 W0 g4 k q) := fun k q hq => HOW.out.h4 hq
  clear c0 c1 c2 c3 hg hb4 HOW HBW
  have Z0 := Lib.hid z0
  have HB0 := Lib.hid hB0
  obtain ⟨n, hn⟩ : ∃ n, n = L.length := ⟨_, rfl⟩
  have HN := Lib.hid hn
  have LS := Lib.hid lS; have LJ := Lib.hid lJ
  rw [← hn] at hL ⊢
  clear hn z0 hB0 lS lJ
  clear HO CN CP CA eN e1 e2 p0 p1 hN h0 hp hd hl hL0
  go_loopw [10, 54] (fun v i wr => ∃ k : Nat, k ≤ n ∧ i = .int .i64 k ∧ ZInv W0.heap.size W0 v ((J.take k).map fun (j : Nat) => (j : Int)) wr) (fun _ i _ => n - (intOf i).toNat)
  case atStart => exact ⟨0, by omega, rfl, OwnZ.nil _ _, Below.refl _ _, Nat.le_refl _⟩
  case round =>
    obtain ⟨k, hk, rfl, hown, hB, hz⟩ := hrel
    obtain ⟨wo, rfl⟩ : ∃ wo : World, wo = wr := ⟨_, rfl⟩
    by_cases hkn : k < n
    · obtain ⟨y, hy⟩ : ∃ y, L[k]? = some y := ⟨L[k]'(by rw [← HN.out]; exact hkn), List.getElem?_eq_getElem _⟩
      obtain ⟨s, hs⟩ : ∃ s, S[k]? = some s := ⟨S[k]'(by rw [LS.out, ← HN.out]; exact hkn), List.getElem?_eq_getElem _⟩
      obtain ⟨j, hj⟩ : ∃ j, J[k]? = some j := ⟨J[k]'(by rw [LJ.out, ← HN.out]; exact hkn), List.getElem?_eq_getElem _⟩
      obtain ⟨t, ht⟩ := CE.out k y s hy hs
      obtain ⟨hi1, hi2⟩ := CI.out k s j hs hj
      obtain ⟨x0, x1, x2, x3⟩ := Z0.out.below hB hg0
      obtain ⟨y0, y1, y2, y3⟩ := (ZL.out k y hy).below hB hg4
      have zl : ∀ k q, L[k]? = some q → H4 wo g4 k q := fun k q hq => (ZL.out k q hq).below hB hg4
      have gx0 : g < wo.heap.size := Nat.lt_of_lt_of_le hg0 hB.size
      have gx4 : g4 < wo.heap.size := Nat.lt_of_lt_of_le hg4 hB.size
      have HJ := Lib.hid hj
      have HT := Lib.hid ht
      have HI : Hid (∀ (cap : Nat) (w : World), g4 < w.heap.size → (∀ k q, L[k]? = some q → H4 w g4 k q) → Calls Try.prog 103 #[.slice (some ⟨g4, 0, none⟩) n cap, .agg #[.int .i64 s.w, .int .i64 s.x, .int .i64 s.y, .int .i64 s.z]] w fun e w' => e = .returned (.int .i64 ((j : Int))) ∧ Below w.heap.size w w') := fun cap w h1 h2 => by
        rw [HN.out]; exact index_in L g4 cap j s (by rw [← HN.out]; exact hL) hi1 hi2 w h1 h2
      have ZO := Lib.hid zl
      have OO := Lib.hid hown
      have BB := Lib.hid hB
      clear hy hs hj ht hi1 hi2 zl hown hB CE CI ZL Z0 HB0
      go_upto_region 16 with fail
      go_cut [13, 14, 54] from 54 to 72 (fun s13 s14 s54 wx => s54 = .int .i64 k ∧ Below wo.heap.size wo wx ∧ ∃ b8, s13 = .pointer (some ⟨b8, 0, none⟩) ∧ H4 wx b8 0 s ∧ b8 < wx.heap.size)
      case first =>
        go_region_with ((go_at_call 82; with_reducible refine (HT.out _).mono ?_; rintro e w' ⟨rfl, hb9⟩; obtain ⟨g9, rfl⟩ := more_of_below hb9; clear hb9))
        all_goals (clear x0 x1 x2 x3 y0 y1 y2 y3 HT)
        all_goals (go_wp2_with fail; go_meet; refine ⟨rfl, by (repeat (first | with_reducible assumption | with_reducible exact Below.refl _ _ | with_reducible refine Below.drewN ?_ _ | with_reducible refine Below.drew ?_ | with_reducible refine Below.alloc ?_ (by first | omega | (simp; done) | (simp; omega)) _ | with_reducible refine Below.setCell ?_ (by first | omega | (simp; done) | (simp; omega)) _ | with_reducible refine below_more _ _ ?_ (by first | omega | (simp; done) | (simp; omega)))), _, rfl, ⟨?_, ?_, ?_, ?_⟩, ?_⟩)
        all_goals (first | (go_simp; done) | (simp only [size_more_eq, World.size_alloc, World.size_setCell]; omega) | (simp; omega))
      case rest =>
        clear x0 x1 x2 x3 y0 y1 y2 y3 HT
        obtain ⟨rfl, hb, b8, rfl, ⟨c0, c1, c2, c3⟩, l8⟩ := hcut
        have zc : ∀ k q, L[k]? = some q → H4 wc g4 k q := fun k q hq => (ZO.out k q hq).below hb gx4
        have lc : g4 < wc.heap.size := Nat.lt_of_lt_of_le gx4 hb.size
        have oc : OwnZ wc W0.heap.size u10 ((J.take k).map fun (j : Nat) => (j : Int)) := OO.out.below hb
        have bc : Below W0.heap.size W0 wc := Below.trans BB.out (hb.mono BB.out.size)
        have bs : W0.heap.size ≤ wc.heap.size := Nat.le_trans hz hb.size
        have HI2 := Lib.hid (HI.out cap4 wc lc zc)
        have OC := Lib.hid oc
        have BC := Lib.hid bc
        clear zc oc bc ZO HI OO BB hb
        go_wp2_with (first | (go_at_call 103; with_reducible refine (HI2.out).mono ?_; rintro e w5 ⟨rfl, hb5⟩; obtain ⟨g5, rfl⟩ := more_of_below hb5; clear hb5) | (at_builtin; go_must (refine append_z (OC.out.mor _) (w0 := W0) (by have hB := BC.out; (repeat (first | with_reducible assumption | with_reducible exact Below.refl _ _ | with_reducible refine Below.drewN ?_ _ | with_reducible refine Below.drew ?_ | with_reducible refine Below.alloc ?_ (by first | omega | (simp; done) | (simp; omega)) _ | with_reducible refine Below.setCell ?_ (by first | omega | (simp; done) | (simp; omega)) _ | with_reducible refine below_more _ _ ?_ (by first | omega | (simp; done) | (simp; omega))))) (by simp; omega) (j : Int) (by simp; omega) rfl (.tmp 66) (.tmp 70) rfl (by rfl) (by rfl) (by simp) ?_); intro v2 w2 hown2 hB2 hz2))
        go_roundw
        case rel =>
          refine ⟨k + 1, by omega, by go_num, ?_, hB2, hz2⟩
          rw [take_snocN HJ.out, List.map_append]; exact hown2
        case measure => simp [intOf]; omega
    · obtain rfl : k = n := by omega
      have hown' : OwnZ wo w.heap.size u10 (J.map fun (j : Nat) => (j : Int)) := by
        have h := hown.base (b' := w.heap.size) HB0.out.size
        rw [List.take_of_length_le (by rw [LJ.out, ← HN.out]; exact Nat.le_refl _)] at h; exact h
      have hB' : Below w.heap.size w wo := Below.trans HB0.out (hB.mono HB0.out.size)
      have HO := Lib.hid hown'
      clear hown hown'
      go_wp2
      refine bodyPost_ret (v := .tuple #[u10, .int .i64 0]) (by simp [results, Try.results55, go_sem]) rfl ⟨_, rfl, HO.out, hB'⟩
end
end
end Go.Proofs.Ythajaabgcbjfkaa
