/- The law RotationPermutes: the walk. Printed by genv4.py. -/
import Derived.Test.YthajaabgcbjfkaaGreatV3
import Derived.Test.YthajaabgcbjfkaaGreatI2
import Derived.Test.YthajaabgcbjfkaaGreatW1
import Derived.Test.YthajaabgcbjfkaaGreatR4
namespace Go.Proofs.YthajaabgcbjfkaaGreat
open Go.RowKit Go.BigFrame

set_option maxRecDepth 100000 in
set_option maxHeartbeats 4000000 in
theorem pm_mid (x : Qd) (p : Int) (h1 : 13 < p) (h2 : p ≤ 500)
    (pr : ∀ w, Calls Tryz.prog 5 #[.int .i64 p] w fun e w' => e = .returned (.bool true) ∧ Below w.heap.size w w') (w : World) :
    Calls Tryz.prog 3 #[.agg #[.int .i64 x.w, .int .i64 x.x, .int .i64 x.y, .int .i64 x.z, .int .i64 x.d], .int .i64 p] w fun e w' => e = .returned (.bool true) ∧ Below w.heap.size w w' := by
  have PR := Lib.hid pr
  clear pr
  go_enter Tryz.func3, Tryz.ntmps3
  go_wp2_with (first | (go_at_call 4; with_reducible refine (awake_any _).mono ?_; rintro e w1 ⟨rfl, hb1⟩; obtain ⟨g1, rfl⟩ := more_of_below hb1; clear hb1) | (go_at_call 5; with_reducible refine (PR.out _).mono ?_; rintro e w2 ⟨rfl, hb2⟩; obtain ⟨g2, rfl⟩ := more_of_below hb2; clear hb2))
  go_ret
  exact ⟨rfl, by (repeat (first | with_reducible assumption | with_reducible exact Below.refl _ _ | with_reducible refine Below.drewN ?_ _ | with_reducible refine Below.drew ?_ | with_reducible refine Below.alloc ?_ (by first | omega | (simp; done) | (simp; omega)) _ | with_reducible refine Below.setCell ?_ (by first | omega | (simp; done) | (simp; omega)) _ | with_reducible refine below_more _ _ ?_ (by first | omega | (simp; done) | (simp; omega))))⟩
set_option maxRecDepth 100000 in
set_option maxHeartbeats 4000000 in
theorem pm_err (x : Qd) (p : Int) (c : Bool) (hg : p ≤ 13 ∨ 500 < p ∨ (13 < p ∧ p ≤ 500 ∧ c = false)) (d : Int) (hd : d ≠ 0) (X : Qt) (b : Bool)
    (pr : ∀ w, Calls Tryz.prog 5 #[.int .i64 p] w fun e w' => e = .returned (.bool c) ∧ Below w.heap.size w w')
    (pp : ∀ w, Calls Tryz.prog 6 #[.agg #[.int .i64 x.w, .int .i64 x.x, .int .i64 x.y, .int .i64 x.z, .int .i64 x.d], .int .i64 p] w fun e w' => e = .returned (.tuple #[.slice none 0 0, .int .i64 d]) ∧ Below w.heap.size w w')
    (ea : ∀ w, Calls Tryz.prog 7 #[.agg #[.int .i64 x.w, .int .i64 x.x, .int .i64 x.y, .int .i64 x.z, .int .i64 x.d]] w fun e w' => e = .returned (.int .i64 d) ∧ Below w.heap.size w w')
    (ox : ∀ w, Calls Tryz.prog 8 #[.agg #[.int .i64 x.w, .int .i64 x.x, .int .i64 x.y, .int .i64 x.z, .int .i64 x.d]] w fun e w' => e = .returned (.tuple #[.agg #[.int .i64 X.w, .int .i64 X.x, .int .i64 X.y, .int .i64 X.z], .bool b]) ∧ Below w.heap.size w w') (w : World) :
    Calls Tryz.prog 3 #[.agg #[.int .i64 x.w, .int .i64 x.x, .int .i64 x.y, .int .i64 x.z, .int .i64 x.d], .int .i64 p] w fun e w' => e = .returned (.bool true) ∧ Below w.heap.size w w' := by
  have PR := Lib.hid pr; have PP := Lib.hid pp; have EA := Lib.hid ea; have OX := Lib.hid ox
  clear pr pp ea ox
  have hd1 : (d != 0) = true := by simpa using hd
  have hd2 : (d == d) = true := by simp
  clear hd
  rcases hg with hg | hg | ⟨hg1, hg2, rfl⟩
  all_goals
    (try (exfalso; omega))
  all_goals
    go_enter Tryz.func3, Tryz.ntmps3
    go_wp2_with (first | (go_at_call 4; with_reducible refine (awake_any _).mono ?_; rintro e w1 ⟨rfl, hb1⟩; obtain ⟨g1, rfl⟩ := more_of_below hb1; clear hb1) | (go_at_call 5; with_reducible refine (PR.out _).mono ?_; rintro e w2 ⟨rfl, hb2⟩; obtain ⟨g2, rfl⟩ := more_of_below hb2; clear hb2) | (go_at_call 6; with_reducible refine (PP.out _).mono ?_; rintro e w3 ⟨rfl, hb3⟩; obtain ⟨g3, rfl⟩ := more_of_below hb3; clear hb3) | (go_at_call 7; with_reducible refine (EA.out _).mono ?_; rintro e w4 ⟨rfl, hb4⟩; obtain ⟨g4, rfl⟩ := more_of_below hb4; clear hb4) | (go_at_call 8; with_reducible refine (OX.out _).mono ?_; rintro e w5 ⟨rfl, hb5⟩; obtain ⟨g5, rfl⟩ := more_of_below hb5; clear hb5))
    go_ret
    exact ⟨rfl, by (repeat (first | with_reducible assumption | with_reducible exact Below.refl _ _ | with_reducible refine Below.drewN ?_ _ | with_reducible refine Below.drew ?_ | with_reducible refine Below.alloc ?_ (by first | omega | (simp; done) | (simp; omega)) _ | with_reducible refine Below.setCell ?_ (by first | omega | (simp; done) | (simp; omega)) _ | with_reducible refine below_more _ _ ?_ (by first | omega | (simp; done) | (simp; omega))))⟩
set_option maxRecDepth 100000 in
set_option maxHeartbeats 4000000 in
theorem pm_zero (x : Qd) (p : Int) (c : Bool) (hg : p ≤ 13 ∨ 500 < p ∨ (13 < p ∧ p ≤ 500 ∧ c = false)) (X : Qt)
    (pr : ∀ w, Calls Tryz.prog 5 #[.int .i64 p] w fun e w' => e = .returned (.bool c) ∧ Below w.heap.size w w')
    (pp : ∀ w, Calls Tryz.prog 6 #[.agg #[.int .i64 x.w, .int .i64 x.x, .int .i64 x.y, .int .i64 x.z, .int .i64 x.d], .int .i64 p] w fun e w' => e = .returned (.tuple #[.slice none 0 0, .int .i64 10]) ∧ Below w.heap.size w w')
    (ea : ∀ w, Calls Tryz.prog 7 #[.agg #[.int .i64 x.w, .int .i64 x.x, .int .i64 x.y, .int .i64 x.z, .int .i64 x.d]] w fun e w' => e = .returned (.int .i64 0) ∧ Below w.heap.size w w')
    (ox : ∀ w, Calls Tryz.prog 8 #[.agg #[.int .i64 x.w, .int .i64 x.x, .int .i64 x.y, .int .i64 x.z, .int .i64 x.d]] w fun e w' => e = .returned (.tuple #[.agg #[.int .i64 X.w, .int .i64 X.x, .int .i64 X.y, .int .i64 X.z], .bool true]) ∧ Below w.heap.size w w')
    (zx : ∀ w, Calls Tryz.prog 9 #[.agg #[.int .i64 X.w, .int .i64 X.x, .int .i64 X.y, .int .i64 X.z]] w fun e w' => e = .returned (.bool true) ∧ Below w.heap.size w w') (w : World) :
    Calls Tryz.prog 3 #[.agg #[.int .i64 x.w, .int .i64 x.x, .int .i64 x.y, .int .i64 x.z, .int .i64 x.d], .int .i64 p] w fun e w' => e = .returned (.bool true) ∧ Below w.heap.size w w' := by
  have PR := Lib.hid pr; have PP := Lib.hid pp; have EA := Lib.hid ea; have OX := Lib.hid ox; have ZX := Lib.hid zx
  clear pr pp ea ox zx
  rcases hg with hg | hg | ⟨hg1, hg2, rfl⟩
  all_goals
    (try (exfalso; omega))
  all_goals
    go_enter Tryz.func3, Tryz.ntmps3
    go_wp2_with (first | (go_at_call 4; with_reducible refine (awake_any _).mono ?_; rintro e w1 ⟨rfl, hb1⟩; obtain ⟨g1, rfl⟩ := more_of_below hb1; clear hb1) | (go_at_call 5; with_reducible refine (PR.out _).mono ?_; rintro e w2 ⟨rfl, hb2⟩; obtain ⟨g2, rfl⟩ := more_of_below hb2; clear hb2) | (go_at_call 6; with_reducible refine (PP.out _).mono ?_; rintro e w3 ⟨rfl, hb3⟩; obtain ⟨g3, rfl⟩ := more_of_below hb3; clear hb3) | (go_at_call 7; with_reducible refine (EA.out _).mono ?_; rintro e w4 ⟨rfl, hb4⟩; obtain ⟨g4, rfl⟩ := more_of_below hb4; clear hb4) | (go_at_call 8; with_reducible refine (OX.out _).mono ?_; rintro e w5 ⟨rfl, hb5⟩; obtain ⟨g5, rfl⟩ := more_of_below hb5; clear hb5) | (go_at_call 9; with_reducible refine (ZX.out _).mono ?_; rintro e w6 ⟨rfl, hb6⟩; obtain ⟨g6, rfl⟩ := more_of_below hb6; clear hb6))
    go_ret
    exact ⟨rfl, by (repeat (first | with_reducible assumption | with_reducible exact Below.refl _ _ | with_reducible refine Below.drewN ?_ _ | with_reducible refine Below.drew ?_ | with_reducible refine Below.alloc ?_ (by first | omega | (simp; done) | (simp; omega)) _ | with_reducible refine Below.setCell ?_ (by first | omega | (simp; done) | (simp; omega)) _ | with_reducible refine below_more _ _ ?_ (by first | omega | (simp; done) | (simp; omega))))⟩
set_option maxRecDepth 100000 in
set_option maxHeartbeats 4000000 in
theorem pm_big (x : Qd) (p : Int) (c : Bool) (hg : p ≤ 13 ∨ 500 < p ∨ (13 < p ∧ p ≤ 500 ∧ c = false)) (X : Qt) (h5 : 500 < p)
    (pr : ∀ w, Calls Tryz.prog 5 #[.int .i64 p] w fun e w' => e = .returned (.bool c) ∧ Below w.heap.size w w')
    (pp : ∀ w, Calls Tryz.prog 6 #[.agg #[.int .i64 x.w, .int .i64 x.x, .int .i64 x.y, .int .i64 x.z, .int .i64 x.d], .int .i64 p] w fun e w' => e = .returned (.tuple #[.slice none 0 0, .int .i64 11]) ∧ Below w.heap.size w w')
    (ea : ∀ w, Calls Tryz.prog 7 #[.agg #[.int .i64 x.w, .int .i64 x.x, .int .i64 x.y, .int .i64 x.z, .int .i64 x.d]] w fun e w' => e = .returned (.int .i64 0) ∧ Below w.heap.size w w')
    (ox : ∀ w, Calls Tryz.prog 8 #[.agg #[.int .i64 x.w, .int .i64 x.x, .int .i64 x.y, .int .i64 x.z, .int .i64 x.d]] w fun e w' => e = .returned (.tuple #[.agg #[.int .i64 X.w, .int .i64 X.x, .int .i64 X.y, .int .i64 X.z], .bool true]) ∧ Below w.heap.size w w')
    (zx : ∀ w, Calls Tryz.prog 9 #[.agg #[.int .i64 X.w, .int .i64 X.x, .int .i64 X.y, .int .i64 X.z]] w fun e w' => e = .returned (.bool false) ∧ Below w.heap.size w w') (w : World) :
    Calls Tryz.prog 3 #[.agg #[.int .i64 x.w, .int .i64 x.x, .int .i64 x.y, .int .i64 x.z, .int .i64 x.d], .int .i64 p] w fun e w' => e = .returned (.bool true) ∧ Below w.heap.size w w' := by
  have PR := Lib.hid pr; have PP := Lib.hid pp; have EA := Lib.hid ea; have OX := Lib.hid ox; have ZX := Lib.hid zx
  clear pr pp ea ox zx
  rcases hg with hg | hg | ⟨hg1, hg2, rfl⟩
  all_goals
    (try (exfalso; omega))
  all_goals
    go_enter Tryz.func3, Tryz.ntmps3
    go_wp2_with (first | (go_at_call 4; with_reducible refine (awake_any _).mono ?_; rintro e w1 ⟨rfl, hb1⟩; obtain ⟨g1, rfl⟩ := more_of_below hb1; clear hb1) | (go_at_call 5; with_reducible refine (PR.out _).mono ?_; rintro e w2 ⟨rfl, hb2⟩; obtain ⟨g2, rfl⟩ := more_of_below hb2; clear hb2) | (go_at_call 6; with_reducible refine (PP.out _).mono ?_; rintro e w3 ⟨rfl, hb3⟩; obtain ⟨g3, rfl⟩ := more_of_below hb3; clear hb3) | (go_at_call 7; with_reducible refine (EA.out _).mono ?_; rintro e w4 ⟨rfl, hb4⟩; obtain ⟨g4, rfl⟩ := more_of_below hb4; clear hb4) | (go_at_call 8; with_reducible refine (OX.out _).mono ?_; rintro e w5 ⟨rfl, hb5⟩; obtain ⟨g5, rfl⟩ := more_of_below hb5; clear hb5) | (go_at_call 9; with_reducible refine (ZX.out _).mono ?_; rintro e w6 ⟨rfl, hb6⟩; obtain ⟨g6, rfl⟩ := more_of_below hb6; clear hb6))
    go_ret
    exact ⟨rfl, by (repeat (first | with_reducible assumption | with_reducible exact Below.refl _ _ | with_reducible refine Below.drewN ?_ _ | with_reducible refine Below.drew ?_ | with_reducible refine Below.alloc ?_ (by first | omega | (simp; done) | (simp; omega)) _ | with_reducible refine Below.setCell ?_ (by first | omega | (simp; done) | (simp; omega)) _ | with_reducible refine below_more _ _ ?_ (by first | omega | (simp; done) | (simp; omega))))⟩
set_option maxRecDepth 100000 in
set_option maxHeartbeats 4000000 in
theorem pm_comp (x : Qd) (p : Int) (c : Bool) (hg : p ≤ 13 ∨ 500 < p ∨ (13 < p ∧ p ≤ 500 ∧ c = false)) (X : Qt) (h5 : p ≤ 500) (hc : c = false)
    (pr : ∀ w, Calls Tryz.prog 5 #[.int .i64 p] w fun e w' => e = .returned (.bool c) ∧ Below w.heap.size w w')
    (pp : ∀ w, Calls Tryz.prog 6 #[.agg #[.int .i64 x.w, .int .i64 x.x, .int .i64 x.y, .int .i64 x.z, .int .i64 x.d], .int .i64 p] w fun e w' => e = .returned (.tuple #[.slice none 0 0, .int .i64 11]) ∧ Below w.heap.size w w')
    (ea : ∀ w, Calls Tryz.prog 7 #[.agg #[.int .i64 x.w, .int .i64 x.x, .int .i64 x.y, .int .i64 x.z, .int .i64 x.d]] w fun e w' => e = .returned (.int .i64 0) ∧ Below w.heap.size w w')
    (ox : ∀ w, Calls Tryz.prog 8 #[.agg #[.int .i64 x.w, .int .i64 x.x, .int .i64 x.y, .int .i64 x.z, .int .i64 x.d]] w fun e w' => e = .returned (.tuple #[.agg #[.int .i64 X.w, .int .i64 X.x, .int .i64 X.y, .int .i64 X.z], .bool true]) ∧ Below w.heap.size w w')
    (zx : ∀ w, Calls Tryz.prog 9 #[.agg #[.int .i64 X.w, .int .i64 X.x, .int .i64 X.y, .int .i64 X.z]] w fun e w' => e = .returned (.bool false) ∧ Below w.heap.size w w') (w : World) :
    Calls Tryz.prog 3 #[.agg #[.int .i64 x.w, .int .i64 x.x, .int .i64 x.y, .int .i64 x.z, .int .i64 x.d], .int .i64 p] w fun e w' => e = .returned (.bool true) ∧ Below w.heap.size w w' := by
  have PR := Lib.hid pr; have PP := Lib.hid pp; have EA := Lib.hid ea; have OX := Lib.hid ox; have ZX := Lib.hid zx
  clear pr pp ea ox zx
  subst hc
  rcases hg with hg | hg | ⟨hg1, hg2, _⟩
  all_goals
    (try (exfalso; omega))
  all_goals
    go_enter Tryz.func3, Tryz.ntmps3
    go_wp2_with (first | (go_at_call 4; with_reducible refine (awake_any _).mono ?_; rintro e w1 ⟨rfl, hb1⟩; obtain ⟨g1, rfl⟩ := more_of_below hb1; clear hb1) | (go_at_call 5; with_reducible refine (PR.out _).mono ?_; rintro e w2 ⟨rfl, hb2⟩; obtain ⟨g2, rfl⟩ := more_of_below hb2; clear hb2) | (go_at_call 6; with_reducible refine (PP.out _).mono ?_; rintro e w3 ⟨rfl, hb3⟩; obtain ⟨g3, rfl⟩ := more_of_below hb3; clear hb3) | (go_at_call 7; with_reducible refine (EA.out _).mono ?_; rintro e w4 ⟨rfl, hb4⟩; obtain ⟨g4, rfl⟩ := more_of_below hb4; clear hb4) | (go_at_call 8; with_reducible refine (OX.out _).mono ?_; rintro e w5 ⟨rfl, hb5⟩; obtain ⟨g5, rfl⟩ := more_of_below hb5; clear hb5) | (go_at_call 9; with_reducible refine (ZX.out _).mono ?_; rintro e w6 ⟨rfl, hb6⟩; obtain ⟨g6, rfl⟩ := more_of_below hb6; clear hb6))
    go_ret
    exact ⟨rfl, by (repeat (first | with_reducible assumption | with_reducible exact Below.refl _ _ | with_reducible refine Below.drewN ?_ _ | with_reducible refine Below.drew ?_ | with_reducible refine Below.alloc ?_ (by first | omega | (simp; done) | (simp; omega)) _ | with_reducible refine Below.setCell ?_ (by first | omega | (simp; done) | (simp; omega)) _ | with_reducible refine below_more _ _ ?_ (by first | omega | (simp; done) | (simp; omega))))⟩
set_option maxRecDepth 100000 in
set_option maxHeartbeats 4000000 in
theorem pm_div (x : Qd) (p : Int) (c : Bool) (hg : p ≤ 13 ∨ 500 < p ∨ (13 < p ∧ p ≤ 500 ∧ (false : Bool) = true)) (X : Qt) (N : Int) (hN : 0 ≤ N ∧ N ≤ 1000000) (h2 : 2 ≤ p) (h5 : p ≤ 500) (hc : c = true) (hNp : N % p = 0)
    (pr : ∀ w, Calls Tryz.prog 5 #[.int .i64 p] w fun e w' => e = .returned (.bool c) ∧ Below w.heap.size w w')
    (pp : ∀ w, Calls Tryz.prog 6 #[.agg #[.int .i64 x.w, .int .i64 x.x, .int .i64 x.y, .int .i64 x.z, .int .i64 x.d], .int .i64 p] w fun e w' => e = .returned (.tuple #[.slice none 0 0, .int .i64 11]) ∧ Below w.heap.size w w')
    (ea : ∀ w, Calls Tryz.prog 7 #[.agg #[.int .i64 x.w, .int .i64 x.x, .int .i64 x.y, .int .i64 x.z, .int .i64 x.d]] w fun e w' => e = .returned (.int .i64 0) ∧ Below w.heap.size w w')
    (ox : ∀ w, Calls Tryz.prog 8 #[.agg #[.int .i64 x.w, .int .i64 x.x, .int .i64 x.y, .int .i64 x.z, .int .i64 x.d]] w fun e w' => e = .returned (.tuple #[.agg #[.int .i64 X.w, .int .i64 X.x, .int .i64 X.y, .int .i64 X.z], .bool true]) ∧ Below w.heap.size w w')
    (zx : ∀ w, Calls Tryz.prog 9 #[.agg #[.int .i64 X.w, .int .i64 X.x, .int .i64 X.y, .int .i64 X.z]] w fun e w' => e = .returned (.bool false) ∧ Below w.heap.size w w')
    (nx : ∀ w, Calls Tryz.prog 10 #[.agg #[.int .i64 X.w, .int .i64 X.x, .int .i64 X.y, .int .i64 X.z]] w fun e w' => e = .returned (.int .i64 N) ∧ Below w.heap.size w w') (w : World) :
    Calls Tryz.prog 3 #[.agg #[.int .i64 x.w, .int .i64 x.x, .int .i64 x.y, .int .i64 x.z, .int .i64 x.d], .int .i64 p] w fun e w' => e = .returned (.bool true) ∧ Below w.heap.size w w' := by
  have PR := Lib.hid pr; have PP := Lib.hid pp; have EA := Lib.hid ea; have OX := Lib.hid ox; have ZX := Lib.hid zx; have NX := Lib.hid nx
  clear pr pp ea ox zx nx
  subst hc
  have p0 : ¬ p = 0 := by omega
  have fN1 : (N % p == 0) = true := by simpa using hNp
  rcases hg with hg | hg | ⟨hg1, hg2, hg3⟩
  all_goals
    (first | (exfalso; omega) | (exact absurd hg3 (by decide)) | skip)
  all_goals
    go_enter Tryz.func3, Tryz.ntmps3
    go_wp2_with (first | (go_at_call 4; with_reducible refine (awake_any _).mono ?_; rintro e w1 ⟨rfl, hb1⟩; obtain ⟨g1, rfl⟩ := more_of_below hb1; clear hb1) | (go_at_call 5; with_reducible refine (PR.out _).mono ?_; rintro e w2 ⟨rfl, hb2⟩; obtain ⟨g2, rfl⟩ := more_of_below hb2; clear hb2) | (go_at_call 6; with_reducible refine (PP.out _).mono ?_; rintro e w3 ⟨rfl, hb3⟩; obtain ⟨g3, rfl⟩ := more_of_below hb3; clear hb3) | (go_at_call 7; with_reducible refine (EA.out _).mono ?_; rintro e w4 ⟨rfl, hb4⟩; obtain ⟨g4, rfl⟩ := more_of_below hb4; clear hb4) | (go_at_call 8; with_reducible refine (OX.out _).mono ?_; rintro e w5 ⟨rfl, hb5⟩; obtain ⟨g5, rfl⟩ := more_of_below hb5; clear hb5) | (go_at_call 9; with_reducible refine (ZX.out _).mono ?_; rintro e w6 ⟨rfl, hb6⟩; obtain ⟨g6, rfl⟩ := more_of_below hb6; clear hb6) | (go_at_call 10; with_reducible refine (NX.out _).mono ?_; rintro e w7 ⟨rfl, hb7⟩; obtain ⟨g7, rfl⟩ := more_of_below hb7; clear hb7))
    go_ret
    exact ⟨rfl, by (repeat (first | with_reducible assumption | with_reducible exact Below.refl _ _ | with_reducible refine Below.drewN ?_ _ | with_reducible refine Below.drew ?_ | with_reducible refine Below.alloc ?_ (by first | omega | (simp; done) | (simp; omega)) _ | with_reducible refine Below.setCell ?_ (by first | omega | (simp; done) | (simp; omega)) _ | with_reducible refine below_more _ _ ?_ (by first | omega | (simp; done) | (simp; omega))))⟩
set_option maxRecDepth 100000 in
set_option maxHeartbeats 4000000 in
theorem pm_large (x : Qd) (p : Int) (X : Qt) (N : Int) (hN : 0 ≤ N ∧ N ≤ 1000000) (h2 : 2 ≤ p) (h13 : p ≤ 13) (hNp : ¬ N % p = 0) (hl : 1000000 < p * N)
    (pr : ∀ w, Calls Tryz.prog 5 #[.int .i64 p] w fun e w' => e = .returned (.bool true) ∧ Below w.heap.size w w')
    (pp : ∀ w, Calls Tryz.prog 6 #[.agg #[.int .i64 x.w, .int .i64 x.x, .int .i64 x.y, .int .i64 x.z, .int .i64 x.d], .int .i64 p] w fun e w' => e = .returned (.tuple #[.slice none 0 0, .int .i64 8]) ∧ Below w.heap.size w w')
    (ea : ∀ w, Calls Tryz.prog 7 #[.agg #[.int .i64 x.w, .int .i64 x.x, .int .i64 x.y, .int .i64 x.z, .int .i64 x.d]] w fun e w' => e = .returned (.int .i64 0) ∧ Below w.heap.size w w')
    (ox : ∀ w, Calls Tryz.prog 8 #[.agg #[.int .i64 x.w, .int .i64 x.x, .int .i64 x.y, .int .i64 x.z, .int .i64 x.d]] w fun e w' => e = .returned (.tuple #[.agg #[.int .i64 X.w, .int .i64 X.x, .int .i64 X.y, .int .i64 X.z], .bool true]) ∧ Below w.heap.size w w')
    (zx : ∀ w, Calls Tryz.prog 9 #[.agg #[.int .i64 X.w, .int .i64 X.x, .int .i64 X.y, .int .i64 X.z]] w fun e w' => e = .returned (.bool false) ∧ Below w.heap.size w w')
    (nx : ∀ w, Calls Tryz.prog 10 #[.agg #[.int .i64 X.w, .int .i64 X.x, .int .i64 X.y, .int .i64 X.z]] w fun e w' => e = .returned (.int .i64 N) ∧ Below w.heap.size w w') (w : World) :
    Calls Tryz.prog 3 #[.agg #[.int .i64 x.w, .int .i64 x.x, .int .i64 x.y, .int .i64 x.z, .int .i64 x.d], .int .i64 p] w fun e w' => e = .returned (.bool true) ∧ Below w.heap.size w w' := by
  have PR := Lib.hid pr; have PP := Lib.hid pp; have EA := Lib.hid ea; have OX := Lib.hid ox; have ZX := Lib.hid zx; have NX := Lib.hid nx
  clear pr pp ea ox zx nx
  have p0 : ¬ p = 0 := by omega
  have fN1 : (N % p == 0) = false := by simpa using hNp
  have q1 : 0 ≤ p * N := Int.mul_nonneg (by omega) hN.1
  have q2 : p * N ≤ 13 * 1000000 := Int.mul_le_mul h13 hN.2 hN.1 (by omega)
  go_enter Tryz.func3, Tryz.ntmps3
  go_wp2_with (first | (go_at_call 4; with_reducible refine (awake_any _).mono ?_; rintro e w1 ⟨rfl, hb1⟩; obtain ⟨g1, rfl⟩ := more_of_below hb1; clear hb1) | (go_at_call 5; with_reducible refine (PR.out _).mono ?_; rintro e w2 ⟨rfl, hb2⟩; obtain ⟨g2, rfl⟩ := more_of_below hb2; clear hb2) | (go_at_call 6; with_reducible refine (PP.out _).mono ?_; rintro e w3 ⟨rfl, hb3⟩; obtain ⟨g3, rfl⟩ := more_of_below hb3; clear hb3) | (go_at_call 7; with_reducible refine (EA.out _).mono ?_; rintro e w4 ⟨rfl, hb4⟩; obtain ⟨g4, rfl⟩ := more_of_below hb4; clear hb4) | (go_at_call 8; with_reducible refine (OX.out _).mono ?_; rintro e w5 ⟨rfl, hb5⟩; obtain ⟨g5, rfl⟩ := more_of_below hb5; clear hb5) | (go_at_call 9; with_reducible refine (ZX.out _).mono ?_; rintro e w6 ⟨rfl, hb6⟩; obtain ⟨g6, rfl⟩ := more_of_below hb6; clear hb6) | (go_at_call 10; with_reducible refine (NX.out _).mono ?_; rintro e w7 ⟨rfl, hb7⟩; obtain ⟨g7, rfl⟩ := more_of_below hb7; clear hb7))
  go_ret
  exact ⟨rfl, by (repeat (first | with_reducible assumption | with_reducible exact Below.refl _ _ | with_reducible refine Below.drewN ?_ _ | with_reducible refine Below.drew ?_ | with_reducible refine Below.alloc ?_ (by first | omega | (simp; done) | (simp; omega)) _ | with_reducible refine Below.setCell ?_ (by first | omega | (simp; done) | (simp; omega)) _ | with_reducible refine below_more _ _ ?_ (by first | omega | (simp; done) | (simp; omega))))⟩
set_option maxRecDepth 10000 in
set_option maxHeartbeats 2000000 in
theorem ints_same (l : List Int) (n g1 g2 c1 c2 : Nat) (w : World) (hn : l.length = n) (hl : n < 1000000) (h1 : ZRow w g1 l) (h2 : ZRow w g2 l) :
    Calls Tryz.prog 11 #[.slice (some ⟨g1, 0, none⟩) n c1, .slice (some ⟨g2, 0, none⟩) n c2] w fun e w' => e = .returned (.bool true) ∧ Below w.heap.size w w' := by
  have H1 := Lib.hid h1; have H2 := Lib.hid h2; have HN := Lib.hid hn
  clear h1 h2 hn
  have nn : ((n : Int) != (n : Int)) = false := by simp
  go_enter Tryz.func11, Tryz.ntmps11
  go_wp2
  go_loopw [5] (fun i wr => ∃ k : Nat, k ≤ n ∧ i = .int .i64 k ∧ Ext w wr) (fun i _ => n - (intOf i).toNat)
  case atStart => exact ⟨0, by omega, rfl, Ext.refl _⟩
  case round =>
    obtain ⟨k, hk, rfl, hext⟩ := hrel
    obtain ⟨gx, rfl⟩ := more_of_below (Ext.below hext)
    clear hext
    by_cases hlt : k < n
    · obtain ⟨x, hx⟩ : ∃ x, l[k]? = some x := ⟨l[k]'(by rw [HN.out]; omega), List.getElem?_eq_getElem _⟩
      have c1 := H1.out.at_ k x hx
      have c2 := H2.out.at_ k x hx
      have l1 := H1.out.lt
      have l2 := H2.out.lt
      have kn : (k : Int) < (n : Int) := by omega
      have ex : (x != x) = false := by simp
      clear hx
      go_wp2_with fail
      (refine wp_region_quiet (C := Ext _) (by kernel_rfl) (by kernel_rfl) (Ext.start _) ?_; simp only []; (repeat (first | go_big_quiet_skip | (go_big_quiet_want; go_big_quiet_op; first | go_big_quiet_on | (apply Exists.intro; refine ⟨fun w' hw' => ?_, ?_⟩; (focus (first | with_reducible exact rfl | (obtain ⟨gx, rfl⟩ := more_of_below (Ext.below hw'); go_simp; exact rfl))); go_big_quiet_on)))); refine wpQuiet_nil ?_; intro w9 hw9; have hb9 := Ext.below hw9; clear hw9; obtain ⟨g9, rfl⟩ := more_of_below hb9; clear hb9)
      go_wp2
      go_roundw
      case rel => exact ⟨k + 1, by omega, by go_num, ext_mk (by (repeat (first | with_reducible assumption | with_reducible exact Below.refl _ _ | with_reducible refine Below.drewN ?_ _ | with_reducible refine Below.drew ?_ | with_reducible refine Below.alloc ?_ (by first | omega | (simp; done) | (simp; omega)) _ | with_reducible refine Below.setCell ?_ (by first | omega | (simp; done) | (simp; omega)) _ | with_reducible refine below_more _ _ ?_ (by first | omega | (simp; done) | (simp; omega)))))⟩
      case measure => simp [intOf]; omega
    · go_wp2
      go_ret
      exact ⟨rfl, by (repeat (first | with_reducible assumption | with_reducible exact Below.refl _ _ | with_reducible refine Below.drewN ?_ _ | with_reducible refine Below.drew ?_ | with_reducible refine Below.alloc ?_ (by first | omega | (simp; done) | (simp; omega)) _ | with_reducible refine Below.setCell ?_ (by first | omega | (simp; done) | (simp; omega)) _ | with_reducible refine below_more _ _ ?_ (by first | omega | (simp; done) | (simp; omega))))⟩
set_option maxRecDepth 100000 in
set_option maxHeartbeats 4000000 in
theorem pm_ok (x : Qd) (p : Int) (X : Qt) (N : Int) (hN : 0 ≤ N ∧ N ≤ 1000000) (h2 : 2 ≤ p) (h13 : p ≤ 13) (hNp : ¬ N % p = 0) (hl : ¬ 1000000 < p * N) (n : Nat) (J : List Nat) (lJ : J.length = n) (hn : n < 1000000) (aJ : ∀ k : Nat, k < n → k ∈ J)
    (pr : ∀ w, Calls Tryz.prog 5 #[.int .i64 p] w fun e w' => e = .returned (.bool true) ∧ Below w.heap.size w w')
    (pp : ∀ w, Calls Tryz.prog 6 #[.agg #[.int .i64 x.w, .int .i64 x.x, .int .i64 x.y, .int .i64 x.z, .int .i64 x.d], .int .i64 p] w fun e w' => ∃ g c, e = .returned (.tuple #[.slice (some ⟨g, 0, none⟩) n c, .int .i64 0]) ∧ ZRow w' g (J.map fun (j : Nat) => (j : Int)) ∧ Below w.heap.size w w')
    (ea : ∀ w, Calls Tryz.prog 7 #[.agg #[.int .i64 x.w, .int .i64 x.x, .int .i64 x.y, .int .i64 x.z, .int .i64 x.d]] w fun e w' => e = .returned (.int .i64 0) ∧ Below w.heap.size w w')
    (ox : ∀ w, Calls Tryz.prog 8 #[.agg #[.int .i64 x.w, .int .i64 x.x, .int .i64 x.y, .int .i64 x.z, .int .i64 x.d]] w fun e w' => e = .returned (.tuple #[.agg #[.int .i64 X.w, .int .i64 X.x, .int .i64 X.y, .int .i64 X.z], .bool true]) ∧ Below w.heap.size w w')
    (zx : ∀ w, Calls Tryz.prog 9 #[.agg #[.int .i64 X.w, .int .i64 X.x, .int .i64 X.y, .int .i64 X.z]] w fun e w' => e = .returned (.bool false) ∧ Below w.heap.size w w')
    (nx : ∀ w, Calls Tryz.prog 10 #[.agg #[.int .i64 X.w, .int .i64 X.x, .int .i64 X.y, .int .i64 X.z]] w fun e w' => e = .returned (.int .i64 N) ∧ Below w.heap.size w w')
    (rp : ∀ w, Calls Tryz.prog 12 #[.agg #[.int .i64 X.w, .int .i64 X.x, .int .i64 X.y, .int .i64 X.z], .int .i64 p] w fun e w' => ∃ g c, e = .returned (.slice (some ⟨g, 0, none⟩) n c) ∧ ZRow w' g (J.map fun (j : Nat) => (j : Int)) ∧ Below w.heap.size w w') (w : World) :
    Calls Tryz.prog 3 #[.agg #[.int .i64 x.w, .int .i64 x.x, .int .i64 x.y, .int .i64 x.z, .int .i64 x.d], .int .i64 p] w fun e w' => e = .returned (.bool true) ∧ Below w.heap.size w w' := by
  have PR := Lib.hid pr; have PP := Lib.hid pp; have EA := Lib.hid ea; have OX := Lib.hid ox; have ZX := Lib.hid zx; have NX := Lib.hid nx; have RP := Lib.hid rp
  clear pr pp ea ox zx nx rp
  have p0 : ¬ p = 0 := by omega
  have fN1 : (N % p == 0) = false := by simpa using hNp
  have q1 : 0 ≤ p * N := Int.mul_nonneg (by omega) hN.1
  have q2 : p * N ≤ 13 * 1000000 := Int.mul_le_mul h13 hN.2 hN.1 (by omega)
  have w1 : ∀ W g c, ZRow W g (J.map fun (j : Nat) => (j : Int)) → Calls Tryz.prog 13 #[.slice (some ⟨g, 0, none⟩) n c] W fun e w' => e = .returned (.bool true) ∧ Below W.heap.size W w' := fun W g c h => permutes_yes (h.rd (by rw [List.length_map]; exact lJ)) (by rw [List.length_map, lJ]; omega) fun i hi => List.mem_map.2 ⟨i, aJ i (by rw [List.length_map, lJ] at hi; exact hi), rfl⟩
  have w2 : ∀ W g1 g2 c1 c2, ZRow W g1 (J.map fun (j : Nat) => (j : Int)) → ZRow W g2 (J.map fun (j : Nat) => (j : Int)) → Calls Tryz.prog 11 #[.slice (some ⟨g1, 0, none⟩) n c1, .slice (some ⟨g2, 0, none⟩) n c2] W fun e w' => e = .returned (.bool true) ∧ Below W.heap.size W w' := fun W g1 g2 c1 c2 h1 h2 => ints_same _ n g1 g2 c1 c2 W (by rw [List.length_map]; exact lJ) hn h1 h2
  have WA := Lib.hid w1; have WB := Lib.hid w2
  clear w1 w2 aJ lJ
  go_enter Tryz.func3, Tryz.ntmps3
  go_wp2_with (first | (go_at_call 4; with_reducible refine (awake_any _).mono ?_; rintro e w1 ⟨rfl, hb1⟩; obtain ⟨g1, rfl⟩ := more_of_below hb1; clear hb1) | (go_at_call 5; with_reducible refine (PR.out _).mono ?_; rintro e w2 ⟨rfl, hb2⟩; obtain ⟨g2, rfl⟩ := more_of_below hb2; clear hb2) | (go_at_call 6; (with_reducible refine (PP.out _).mono ?_); rintro e w20 ⟨gr20, cr20, rfl, hz20, hb20⟩; have HZ20 := Lib.hid hz20; clear hz20; obtain ⟨g20, rfl⟩ := more_of_below hb20; clear hb20) | (go_at_call 7; with_reducible refine (EA.out _).mono ?_; rintro e w4 ⟨rfl, hb4⟩; obtain ⟨g4, rfl⟩ := more_of_below hb4; clear hb4) | (go_at_call 8; with_reducible refine (OX.out _).mono ?_; rintro e w5 ⟨rfl, hb5⟩; obtain ⟨g5, rfl⟩ := more_of_below hb5; clear hb5) | (go_at_call 9; with_reducible refine (ZX.out _).mono ?_; rintro e w6 ⟨rfl, hb6⟩; obtain ⟨g6, rfl⟩ := more_of_below hb6; clear hb6) | (go_at_call 10; with_reducible refine (NX.out _).mono ?_; rintro e w7 ⟨rfl, hb7⟩; obtain ⟨g7, rfl⟩ := more_of_below hb7; clear hb7) | (go_at_call 12; (with_reducible refine (RP.out _).mono ?_); rintro e w21 ⟨gr21, cr21, rfl, hz21, hb21⟩; have HZ21 := Lib.hid hz21; clear hz21; obtain ⟨g21, rfl⟩ := more_of_below hb21; clear hb21) | (go_at_call 13; (with_reducible refine (WA.out _ _ _ ?_).mono ?_); (focus ((repeat (first | with_reducible exact HZ20.out | with_reducible exact HZ21.out | with_reducible refine ZRow.mor ?_ _ | with_reducible refine ZRow.alloc ?_ _)); done)); rintro e w30 ⟨rfl, hb30⟩; obtain ⟨g30, rfl⟩ := more_of_below hb30; clear hb30) | (go_at_call 11; (with_reducible refine (WB.out _ _ _ _ _ ?_ ?_).mono ?_); (focus ((repeat (first | with_reducible exact HZ20.out | with_reducible exact HZ21.out | with_reducible refine ZRow.mor ?_ _ | with_reducible refine ZRow.alloc ?_ _)); done)); (focus ((repeat (first | with_reducible exact HZ20.out | with_reducible exact HZ21.out | with_reducible refine ZRow.mor ?_ _ | with_reducible refine ZRow.alloc ?_ _)); done)); rintro e w31 ⟨rfl, hb31⟩; obtain ⟨g31, rfl⟩ := more_of_below hb31; clear hb31))
  go_ret
  exact ⟨rfl, by (repeat (first | with_reducible assumption | with_reducible exact Below.refl _ _ | with_reducible refine Below.drewN ?_ _ | with_reducible refine Below.drew ?_ | with_reducible refine Below.alloc ?_ (by first | omega | (simp; done) | (simp; omega)) _ | with_reducible refine Below.setCell ?_ (by first | omega | (simp; done) | (simp; omega)) _ | with_reducible refine below_more _ _ ?_ (by first | omega | (simp; done) | (simp; omega))))⟩
end Go.Proofs.YthajaabgcbjfkaaGreat
