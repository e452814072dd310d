/- The law RotationCounts: the walk. Printed by genf6.py. -/
import Derived.Test.YthajaabgcbjfkaaF5
import Derived.Deep.CutRange
namespace Go.Proofs.Ythajaabgcbjfkaa
open Go.RowKit Go.BigFrame
attribute [local go_sem ↓] Go.wp_at_zero Go.wp_at_succ

set_option maxRecDepth 100000 in
set_option maxHeartbeats 4000000 in
theorem cc_long (x : Qd) (a0 : Option Addr) (n cap0 : Nat) (h8 : 8 < n) (hn : n ≤ 9223372036854775807) (w : World) :
    Calls Try.prog 13 #[.agg #[.int .i64 x.w, .int .i64 x.x, .int .i64 x.y, .int .i64 x.z, .int .i64 x.d], .slice a0 n cap0] w fun e w' => e = .returned (.bool true) ∧ Below w.heap.size w w' := by
  go_enter Try.func13, Try.ntmps13
  go_wp2_with (first | (go_at_call 14; with_reducible refine (awake_any _).mono ?_; rintro e w1 ⟨rfl, hb1⟩; obtain ⟨g1, rfl⟩ := more_of_below hb1; clear hb1))
  go_ret
  exact ⟨rfl, by (repeat (first | with_reducible assumption | with_reducible exact Below.refl _ _ | with_reducible refine Below.drewN ?_ _ | with_reducible refine Below.drew ?_ | with_reducible refine Below.alloc ?_ (by first | omega | (simp; done) | (simp; omega)) _ | with_reducible refine Below.setCell ?_ (by first | omega | (simp; done) | (simp; omega)) _ | with_reducible refine below_more _ _ ?_ (by first | omega | (simp; done) | (simp; omega))))⟩
set_option maxRecDepth 100000 in
set_option maxHeartbeats 8000000 in
theorem cc_err (x : Qd) (a0 : Option Addr) (n cap0 : Nat) (h8 : n ≤ 8) (l : List Int) (X : Qt) (w : World) (b : Bool) (d : Int) (hd : d ≠ 0)
    (cp : ∀ W, Below w.heap.size w W → Calls Try.prog 59 #[.slice a0 n cap0] W fun e w' => ∃ v, e = .returned v ∧ RdC w' v l ∧ Below W.heap.size W w')
    (pf : ∀ W v, RdC W v l → Calls Try.prog 62 #[.agg #[.int .i64 x.w, .int .i64 x.x, .int .i64 x.y, .int .i64 x.z, .int .i64 x.d], v] W fun e w' => e = .returned (.tuple #[.int .i64 0, .int .i64 d]) ∧ Below W.heap.size W w')
    (ea : ∀ w, Calls Try.prog 16 #[.agg #[.int .i64 x.w, .int .i64 x.x, .int .i64 x.y, .int .i64 x.z, .int .i64 x.d]] w fun e w' => e = .returned (.int .i64 d) ∧ Below w.heap.size w w')
    (ox : ∀ w, Calls Try.prog 17 #[.agg #[.int .i64 x.w, .int .i64 x.x, .int .i64 x.y, .int .i64 x.z, .int .i64 x.d]] w fun e w' => e = .returned (.tuple #[.agg #[.int .i64 X.w, .int .i64 X.x, .int .i64 X.y, .int .i64 X.z], .bool b]) ∧ Below w.heap.size w w') :
    Calls Try.prog 13 #[.agg #[.int .i64 x.w, .int .i64 x.x, .int .i64 x.y, .int .i64 x.z, .int .i64 x.d], .slice a0 n cap0] w fun e w' => e = .returned (.bool true) ∧ Below w.heap.size w w' := by
  have CP : Hid _ := cp; have PF : Hid _ := pf; have EA : Hid _ := ea; have OX : Hid _ := ox
  clear cp pf ea ox
  have hd1 : (d == 0) = false := by simpa using hd
  have hd2 : (d != 0) = true := by simpa using hd
  have hd3 : (d == d) = true := by simp
  clear hd
  by_cases hn0 : n = 0
  · subst hn0
    go_enter Try.func13, Try.ntmps13
    go_wp2_with (first | (go_at_call 14; with_reducible refine (awake_any _).mono ?_; rintro e w1 ⟨rfl, hb1⟩; obtain ⟨g1, rfl⟩ := more_of_below hb1; clear hb1) | (go_at_call 16; with_reducible refine (EA.out _).mono ?_; rintro e w4 ⟨rfl, hb4⟩; obtain ⟨g4, rfl⟩ := more_of_below hb4; clear hb4) | (go_at_call 17; with_reducible refine (OX.out _).mono ?_; rintro e w5 ⟨rfl, hb5⟩; obtain ⟨g5, rfl⟩ := more_of_below hb5; clear hb5))
    refine wp_loop_rounds 1 ?_
    rw [rounds_succ]
    go_upto_region 14 with fail
    go_cut [9, 10] from 45 to 51 (fun s9 s10 wx => s9 = .int .i64 0 ∧ s10 = .int .i64 d ∧ Below w.heap.size w wx)
    case first =>
      go_region_with (first | (go_at_call 59; (with_reducible refine (CP.out _ ?_).mono ?_); (focus ((repeat (first | with_reducible assumption | with_reducible exact Below.refl _ _ | with_reducible refine Below.drewN ?_ _ | with_reducible refine Below.drew ?_ | with_reducible refine Below.alloc ?_ (by first | omega | (simp; done) | (simp; omega)) _ | with_reducible refine Below.setCell ?_ (by first | omega | (simp; done) | (simp; omega)) _ | with_reducible refine below_more _ _ ?_ (by first | omega | (simp; done) | (simp; omega)))))); rintro e w2 ⟨v2, rfl, hv2, hb2⟩; have HV := Lib.hid hv2; clear hv2; obtain ⟨g2, rfl⟩ := more_of_below hb2; clear hb2) | (go_at_call 62; (with_reducible refine (PF.out _ _ ?_).mono ?_); (focus (exact HV.out)); rintro e w3 ⟨rfl, hb3⟩; obtain ⟨g3, rfl⟩ := more_of_below hb3; clear hb3))
      all_goals (go_wp2_with fail; go_meet; refine ⟨rfl, rfl, by (repeat (first | with_reducible assumption | with_reducible exact Below.refl _ _ | with_reducible refine Below.drewN ?_ _ | with_reducible refine Below.drew ?_ | with_reducible refine Below.alloc ?_ (by first | omega | (simp; done) | (simp; omega)) _ | with_reducible refine Below.setCell ?_ (by first | omega | (simp; done) | (simp; omega)) _ | with_reducible refine below_more _ _ ?_ (by first | omega | (simp; done) | (simp; omega))))⟩)
      all_goals (first | (go_simp; done) | (simp only [size_more_eq, World.size_alloc]; omega) | (simp; omega) | ((repeat (first | with_reducible assumption | with_reducible exact Below.refl _ _ | with_reducible refine Below.drewN ?_ _ | with_reducible refine Below.drew ?_ | with_reducible refine Below.alloc ?_ (by first | omega | (simp; done) | (simp; omega)) _ | with_reducible refine Below.setCell ?_ (by first | omega | (simp; done) | (simp; omega)) _ | with_reducible refine below_more _ _ ?_ (by first | omega | (simp; done) | (simp; omega))))))
    case rest =>
      obtain ⟨rfl, rfl, hb⟩ := hcut
      go_wp2_with fail
      go_ret
      exact ⟨rfl, by (repeat (first | with_reducible assumption | with_reducible exact Below.refl _ _ | with_reducible refine Below.drewN ?_ _ | with_reducible refine Below.drew ?_ | with_reducible refine Below.alloc ?_ (by first | omega | (simp; done) | (simp; omega)) _ | with_reducible refine Below.setCell ?_ (by first | omega | (simp; done) | (simp; omega)) _ | with_reducible refine below_more _ _ ?_ (by first | omega | (simp; done) | (simp; omega))))⟩
  · have hn1 : (0 : Int) < (n : Int) := by omega
    have hn2 : 0 < n := by omega
    go_enter Try.func13, Try.ntmps13
    go_wp2_with (first | (go_at_call 14; with_reducible refine (awake_any _).mono ?_; rintro e w1 ⟨rfl, hb1⟩; obtain ⟨g1, rfl⟩ := more_of_below hb1; clear hb1) | (go_at_call 16; with_reducible refine (EA.out _).mono ?_; rintro e w4 ⟨rfl, hb4⟩; obtain ⟨g4, rfl⟩ := more_of_below hb4; clear hb4) | (go_at_call 17; with_reducible refine (OX.out _).mono ?_; rintro e w5 ⟨rfl, hb5⟩; obtain ⟨g5, rfl⟩ := more_of_below hb5; clear hb5))
    refine wp_loop_rounds 1 ?_
    rw [rounds_succ]
    go_upto_region 14 with fail
    go_cut [9, 10] from 45 to 51 (fun s9 s10 wx => s9 = .int .i64 0 ∧ s10 = .int .i64 d ∧ Below w.heap.size w wx)
    case first =>
      go_region_with (first | (go_at_call 59; (with_reducible refine (CP.out _ ?_).mono ?_); (focus ((repeat (first | with_reducible assumption | with_reducible exact Below.refl _ _ | with_reducible refine Below.drewN ?_ _ | with_reducible refine Below.drew ?_ | with_reducible refine Below.alloc ?_ (by first | omega | (simp; done) | (simp; omega)) _ | with_reducible refine Below.setCell ?_ (by first | omega | (simp; done) | (simp; omega)) _ | with_reducible refine below_more _ _ ?_ (by first | omega | (simp; done) | (simp; omega)))))); rintro e w2 ⟨v2, rfl, hv2, hb2⟩; have HV := Lib.hid hv2; clear hv2; obtain ⟨g2, rfl⟩ := more_of_below hb2; clear hb2) | (go_at_call 62; (with_reducible refine (PF.out _ _ ?_).mono ?_); (focus (exact HV.out)); rintro e w3 ⟨rfl, hb3⟩; obtain ⟨g3, rfl⟩ := more_of_below hb3; clear hb3))
      all_goals (go_wp2_with fail; go_meet; refine ⟨rfl, rfl, by (repeat (first | with_reducible assumption | with_reducible exact Below.refl _ _ | with_reducible refine Below.drewN ?_ _ | with_reducible refine Below.drew ?_ | with_reducible refine Below.alloc ?_ (by first | omega | (simp; done) | (simp; omega)) _ | with_reducible refine Below.setCell ?_ (by first | omega | (simp; done) | (simp; omega)) _ | with_reducible refine below_more _ _ ?_ (by first | omega | (simp; done) | (simp; omega))))⟩)
      all_goals (first | (go_simp; done) | (simp only [size_more_eq, World.size_alloc]; omega) | (simp; omega) | ((repeat (first | with_reducible assumption | with_reducible exact Below.refl _ _ | with_reducible refine Below.drewN ?_ _ | with_reducible refine Below.drew ?_ | with_reducible refine Below.alloc ?_ (by first | omega | (simp; done) | (simp; omega)) _ | with_reducible refine Below.setCell ?_ (by first | omega | (simp; done) | (simp; omega)) _ | with_reducible refine below_more _ _ ?_ (by first | omega | (simp; done) | (simp; omega))))))
    case rest =>
      obtain ⟨rfl, rfl, hb⟩ := hcut
      go_wp2_with fail
      go_ret
      exact ⟨rfl, by (repeat (first | with_reducible assumption | with_reducible exact Below.refl _ _ | with_reducible refine Below.drewN ?_ _ | with_reducible refine Below.drew ?_ | with_reducible refine Below.alloc ?_ (by first | omega | (simp; done) | (simp; omega)) _ | with_reducible refine Below.setCell ?_ (by first | omega | (simp; done) | (simp; omega)) _ | with_reducible refine below_more _ _ ?_ (by first | omega | (simp; done) | (simp; omega))))⟩
set_option maxRecDepth 100000 in
set_option maxHeartbeats 8000000 in
theorem cc_mod (x : Qd) (a0 : Option Addr) (n cap0 : Nat) (h8 : n ≤ 8) (l : List Int) (X : Qt) (w : World) (d : Int) (hd : d ≠ 0)
    (cp : ∀ W, Below w.heap.size w W → Calls Try.prog 59 #[.slice a0 n cap0] W fun e w' => ∃ v, e = .returned v ∧ RdC w' v l ∧ Below W.heap.size W w')
    (pf : ∀ W v, RdC W v l → Calls Try.prog 62 #[.agg #[.int .i64 x.w, .int .i64 x.x, .int .i64 x.y, .int .i64 x.z, .int .i64 x.d], v] W fun e w' => e = .returned (.tuple #[.int .i64 0, .int .i64 d]) ∧ Below W.heap.size W w')
    (ea : ∀ w, Calls Try.prog 16 #[.agg #[.int .i64 x.w, .int .i64 x.x, .int .i64 x.y, .int .i64 x.z, .int .i64 x.d]] w fun e w' => e = .returned (.int .i64 0) ∧ Below w.heap.size w w')
    (ox : ∀ w, Calls Try.prog 17 #[.agg #[.int .i64 x.w, .int .i64 x.x, .int .i64 x.y, .int .i64 x.z, .int .i64 x.d]] w fun e w' => e = .returned (.tuple #[.agg #[.int .i64 X.w, .int .i64 X.x, .int .i64 X.y, .int .i64 X.z], .bool true]) ∧ Below w.heap.size w w')
    (me : ∀ W, Below w.heap.size w W → Calls Try.prog 60 #[.agg #[.int .i64 X.w, .int .i64 X.x, .int .i64 X.y, .int .i64 X.z], .slice a0 n cap0] W fun e w' => e = .returned (.int .i64 d) ∧ Below W.heap.size W w') :
    Calls Try.prog 13 #[.agg #[.int .i64 x.w, .int .i64 x.x, .int .i64 x.y, .int .i64 x.z, .int .i64 x.d], .slice a0 n cap0] w fun e w' => e = .returned (.bool true) ∧ Below w.heap.size w w' := by
  have CP : Hid _ := cp; have PF : Hid _ := pf; have EA : Hid _ := ea; have OX : Hid _ := ox; have ME : Hid _ := me
  clear cp pf ea ox me
  have hd1 : (d == 0) = false := by simpa using hd
  have hd2 : (d != 0) = true := by simpa using hd
  have hd3 : (d == d) = true := by simp
  clear hd
  by_cases hn0 : n = 0
  · subst hn0
    go_enter Try.func13, Try.ntmps13
    go_wp2_with (first | (go_at_call 14; with_reducible refine (awake_any _).mono ?_; rintro e w1 ⟨rfl, hb1⟩; obtain ⟨g1, rfl⟩ := more_of_below hb1; clear hb1) | (go_at_call 16; with_reducible refine (EA.out _).mono ?_; rintro e w4 ⟨rfl, hb4⟩; obtain ⟨g4, rfl⟩ := more_of_below hb4; clear hb4) | (go_at_call 17; with_reducible refine (OX.out _).mono ?_; rintro e w5 ⟨rfl, hb5⟩; obtain ⟨g5, rfl⟩ := more_of_below hb5; clear hb5) | (go_at_call 60; (with_reducible refine (ME.out _ ?_).mono ?_); (focus ((repeat (first | with_reducible assumption | with_reducible exact Below.refl _ _ | with_reducible refine Below.drewN ?_ _ | with_reducible refine Below.drew ?_ | with_reducible refine Below.alloc ?_ (by first | omega | (simp; done) | (simp; omega)) _ | with_reducible refine Below.setCell ?_ (by first | omega | (simp; done) | (simp; omega)) _ | with_reducible refine below_more _ _ ?_ (by first | omega | (simp; done) | (simp; omega)))))); rintro e w6 ⟨rfl, hb6⟩; obtain ⟨g6, rfl⟩ := more_of_below hb6; clear hb6))
    refine wp_loop_rounds 1 ?_
    rw [rounds_succ]
    go_upto_region 14 with fail
    go_cut [9, 10] from 45 to 51 (fun s9 s10 wx => s9 = .int .i64 0 ∧ s10 = .int .i64 d ∧ Below w.heap.size w wx)
    case first =>
      go_region_with (first | (go_at_call 59; (with_reducible refine (CP.out _ ?_).mono ?_); (focus ((repeat (first | with_reducible assumption | with_reducible exact Below.refl _ _ | with_reducible refine Below.drewN ?_ _ | with_reducible refine Below.drew ?_ | with_reducible refine Below.alloc ?_ (by first | omega | (simp; done) | (simp; omega)) _ | with_reducible refine Below.setCell ?_ (by first | omega | (simp; done) | (simp; omega)) _ | with_reducible refine below_more _ _ ?_ (by first | omega | (simp; done) | (simp; omega)))))); rintro e w2 ⟨v2, rfl, hv2, hb2⟩; have HV := Lib.hid hv2; clear hv2; obtain ⟨g2, rfl⟩ := more_of_below hb2; clear hb2) | (go_at_call 62; (with_reducible refine (PF.out _ _ ?_).mono ?_); (focus (exact HV.out)); rintro e w3 ⟨rfl, hb3⟩; obtain ⟨g3, rfl⟩ := more_of_below hb3; clear hb3))
      all_goals (go_wp2_with fail; go_meet; refine ⟨rfl, rfl, by (repeat (first | with_reducible assumption | with_reducible exact Below.refl _ _ | with_reducible refine Below.drewN ?_ _ | with_reducible refine Below.drew ?_ | with_reducible refine Below.alloc ?_ (by first | omega | (simp; done) | (simp; omega)) _ | with_reducible refine Below.setCell ?_ (by first | omega | (simp; done) | (simp; omega)) _ | with_reducible refine below_more _ _ ?_ (by first | omega | (simp; done) | (simp; omega))))⟩)
      all_goals (first | (go_simp; done) | (simp only [size_more_eq, World.size_alloc]; omega) | (simp; omega) | ((repeat (first | with_reducible assumption | with_reducible exact Below.refl _ _ | with_reducible refine Below.drewN ?_ _ | with_reducible refine Below.drew ?_ | with_reducible refine Below.alloc ?_ (by first | omega | (simp; done) | (simp; omega)) _ | with_reducible refine Below.setCell ?_ (by first | omega | (simp; done) | (simp; omega)) _ | with_reducible refine below_more _ _ ?_ (by first | omega | (simp; done) | (simp; omega))))))
    case rest =>
      obtain ⟨rfl, rfl, hb⟩ := hcut
      go_wp2_with fail
      go_ret
      exact ⟨rfl, by (repeat (first | with_reducible assumption | with_reducible exact Below.refl _ _ | with_reducible refine Below.drewN ?_ _ | with_reducible refine Below.drew ?_ | with_reducible refine Below.alloc ?_ (by first | omega | (simp; done) | (simp; omega)) _ | with_reducible refine Below.setCell ?_ (by first | omega | (simp; done) | (simp; omega)) _ | with_reducible refine below_more _ _ ?_ (by first | omega | (simp; done) | (simp; omega))))⟩
  · have hn1 : (0 : Int) < (n : Int) := by omega
    have hn2 : 0 < n := by omega
    go_enter Try.func13, Try.ntmps13
    go_wp2_with (first | (go_at_call 14; with_reducible refine (awake_any _).mono ?_; rintro e w1 ⟨rfl, hb1⟩; obtain ⟨g1, rfl⟩ := more_of_below hb1; clear hb1) | (go_at_call 16; with_reducible refine (EA.out _).mono ?_; rintro e w4 ⟨rfl, hb4⟩; obtain ⟨g4, rfl⟩ := more_of_below hb4; clear hb4) | (go_at_call 17; with_reducible refine (OX.out _).mono ?_; rintro e w5 ⟨rfl, hb5⟩; obtain ⟨g5, rfl⟩ := more_of_below hb5; clear hb5) | (go_at_call 60; (with_reducible refine (ME.out _ ?_).mono ?_); (focus ((repeat (first | with_reducible assumption | with_reducible exact Below.refl _ _ | with_reducible refine Below.drewN ?_ _ | with_reducible refine Below.drew ?_ | with_reducible refine Below.alloc ?_ (by first | omega | (simp; done) | (simp; omega)) _ | with_reducible refine Below.setCell ?_ (by first | omega | (simp; done) | (simp; omega)) _ | with_reducible refine below_more _ _ ?_ (by first | omega | (simp; done) | (simp; omega)))))); rintro e w6 ⟨rfl, hb6⟩; obtain ⟨g6, rfl⟩ := more_of_below hb6; clear hb6))
    refine wp_loop_rounds 1 ?_
    rw [rounds_succ]
    go_upto_region 14 with fail
    go_cut [9, 10] from 45 to 51 (fun s9 s10 wx => s9 = .int .i64 0 ∧ s10 = .int .i64 d ∧ Below w.heap.size w wx)
    case first =>
      go_region_with (first | (go_at_call 59; (with_reducible refine (CP.out _ ?_).mono ?_); (focus ((repeat (first | with_reducible assumption | with_reducible exact Below.refl _ _ | with_reducible refine Below.drewN ?_ _ | with_reducible refine Below.drew ?_ | with_reducible refine Below.alloc ?_ (by first | omega | (simp; done) | (simp; omega)) _ | with_reducible refine Below.setCell ?_ (by first | omega | (simp; done) | (simp; omega)) _ | with_reducible refine below_more _ _ ?_ (by first | omega | (simp; done) | (simp; omega)))))); rintro e w2 ⟨v2, rfl, hv2, hb2⟩; have HV := Lib.hid hv2; clear hv2; obtain ⟨g2, rfl⟩ := more_of_below hb2; clear hb2) | (go_at_call 62; (with_reducible refine (PF.out _ _ ?_).mono ?_); (focus (exact HV.out)); rintro e w3 ⟨rfl, hb3⟩; obtain ⟨g3, rfl⟩ := more_of_below hb3; clear hb3))
      all_goals (go_wp2_with fail; go_meet; refine ⟨rfl, rfl, by (repeat (first | with_reducible assumption | with_reducible exact Below.refl _ _ | with_reducible refine Below.drewN ?_ _ | with_reducible refine Below.drew ?_ | with_reducible refine Below.alloc ?_ (by first | omega | (simp; done) | (simp; omega)) _ | with_reducible refine Below.setCell ?_ (by first | omega | (simp; done) | (simp; omega)) _ | with_reducible refine below_more _ _ ?_ (by first | omega | (simp; done) | (simp; omega))))⟩)
      all_goals (first | (go_simp; done) | (simp only [size_more_eq, World.size_alloc]; omega) | (simp; omega) | ((repeat (first | with_reducible assumption | with_reducible exact Below.refl _ _ | with_reducible refine Below.drewN ?_ _ | with_reducible refine Below.drew ?_ | with_reducible refine Below.alloc ?_ (by first | omega | (simp; done) | (simp; omega)) _ | with_reducible refine Below.setCell ?_ (by first | omega | (simp; done) | (simp; omega)) _ | with_reducible refine below_more _ _ ?_ (by first | omega | (simp; done) | (simp; omega))))))
    case rest =>
      obtain ⟨rfl, rfl, hb⟩ := hcut
      go_wp2_with fail
      go_ret
      exact ⟨rfl, by (repeat (first | with_reducible assumption | with_reducible exact Below.refl _ _ | with_reducible refine Below.drewN ?_ _ | with_reducible refine Below.drew ?_ | with_reducible refine Below.alloc ?_ (by first | omega | (simp; done) | (simp; omega)) _ | with_reducible refine Below.setCell ?_ (by first | omega | (simp; done) | (simp; omega)) _ | with_reducible refine below_more _ _ ?_ (by first | omega | (simp; done) | (simp; omega))))⟩
set_option maxRecDepth 100000 in
set_option maxHeartbeats 8000000 in
theorem cc_seven (x : Qd) (a0 : Option Addr) (n cap0 : Nat) (h8 : n ≤ 8) (l : List Int) (X : Qt) (w : World) (a : Addr) (ha : a0 = some a) (hl : l.length = n) (j : Nat) (z : Int) (hj : l[j]? = some z) (hz7 : 7 < z) (hza : ZAt w a l)
    (ea : ∀ w, Calls Try.prog 16 #[.agg #[.int .i64 x.w, .int .i64 x.x, .int .i64 x.y, .int .i64 x.z, .int .i64 x.d]] w fun e w' => e = .returned (.int .i64 0) ∧ Below w.heap.size w w')
    (ox : ∀ w, Calls Try.prog 17 #[.agg #[.int .i64 x.w, .int .i64 x.x, .int .i64 x.y, .int .i64 x.z, .int .i64 x.d]] w fun e w' => e = .returned (.tuple #[.agg #[.int .i64 X.w, .int .i64 X.x, .int .i64 X.y, .int .i64 X.z], .bool true]) ∧ Below w.heap.size w w')
    (me : ∀ W, Below w.heap.size w W → Calls Try.prog 60 #[.agg #[.int .i64 X.w, .int .i64 X.x, .int .i64 X.y, .int .i64 X.z], .slice a0 n cap0] W fun e w' => e = .returned (.int .i64 0) ∧ Below W.heap.size W w') :
    Calls Try.prog 13 #[.agg #[.int .i64 x.w, .int .i64 x.x, .int .i64 x.y, .int .i64 x.z, .int .i64 x.d], .slice a0 n cap0] w fun e w' => e = .returned (.bool true) ∧ Below w.heap.size w w' := by
  have EA : Hid _ := ea; have OX : Hid _ := ox; have ME : Hid _ := me; have HL : Hid _ := hl; have HJ : Hid _ := hj; have HZA := Lib.hid hza
  clear ea ox me hl hj hza
  go_enter Try.func13, Try.ntmps13
  subst ha
  go_wp2_with (first | (go_at_call 14; with_reducible refine (awake_any _).mono ?_; rintro e w1 ⟨rfl, hb1⟩; obtain ⟨g1, rfl⟩ := more_of_below hb1; clear hb1) | (go_at_call 16; with_reducible refine (EA.out _).mono ?_; rintro e w4 ⟨rfl, hb4⟩; obtain ⟨g4, rfl⟩ := more_of_below hb4; clear hb4) | (go_at_call 17; with_reducible refine (OX.out _).mono ?_; rintro e w5 ⟨rfl, hb5⟩; obtain ⟨g5, rfl⟩ := more_of_below hb5; clear hb5) | (go_at_call 60; (with_reducible refine (ME.out _ ?_).mono ?_); (focus ((repeat (first | with_reducible assumption | with_reducible exact Below.refl _ _ | with_reducible refine Below.drewN ?_ _ | with_reducible refine Below.drew ?_ | with_reducible refine Below.alloc ?_ (by first | omega | (simp; done) | (simp; omega)) _ | with_reducible refine Below.setCell ?_ (by first | omega | (simp; done) | (simp; omega)) _ | with_reducible refine below_more _ _ ?_ (by first | omega | (simp; done) | (simp; omega)))))); rintro e w6 ⟨rfl, hb6⟩; obtain ⟨g6, rfl⟩ := more_of_below hb6; clear hb6))
  go_loopw [8] (fun i wr => ∃ k : Nat, k ≤ j ∧ i = .int .i64 k ∧ Below w.heap.size w wr) (fun i _ => n - (intOf i).toNat)
  case atStart => exact ⟨0, by omega, rfl, by (repeat (first | with_reducible assumption | with_reducible exact Below.refl _ _ | with_reducible refine Below.drewN ?_ _ | with_reducible refine Below.drew ?_ | with_reducible refine Below.alloc ?_ (by first | omega | (simp; done) | (simp; omega)) _ | with_reducible refine Below.setCell ?_ (by first | omega | (simp; done) | (simp; omega)) _ | with_reducible refine below_more _ _ ?_ (by first | omega | (simp; done) | (simp; omega))))⟩
  case round =>
    obtain ⟨k, hk, rfl, hb⟩ := hrel
    obtain ⟨wo, rfl⟩ : ∃ wo : World, wo = wr := ⟨_, rfl⟩
    have hjn : j < n := by rw [← HL.out]; exact (List.getElem?_eq_some_iff.1 HJ.out).1
    obtain ⟨q, hq⟩ : ∃ q, l[k]? = some q := ⟨l[k]'(by rw [HL.out]; omega), List.getElem?_eq_getElem _⟩
    have cq := (HZA.out.below hb (Nat.le_refl _)) k q hq
    have kn : (k : Int) < (n : Int) := by omega
    have HQ := Lib.hid hq
    clear hq
    by_cases h7 : 7 < q
    · go_wp2_with fail
      go_ret
      exact ⟨rfl, hb⟩
    · have hkj : k < j := by
        apply Nat.lt_of_le_of_ne hk
        intro e
        subst e
        have h1 := HQ.out
        rw [HJ.out] at h1
        have h2 := Option.some.inj h1
        omega
      go_wp2_with fail
      go_roundw
      case rel => exact ⟨k + 1, by omega, by go_num, hb⟩
      case measure => simp [intOf]; omega
set_option maxRecDepth 100000 in
set_option maxHeartbeats 8000000 in
theorem cc_ok (x : Qd) (a0 : Option Addr) (n cap0 : Nat) (h8 : n ≤ 8) (l : List Int) (X : Qt) (w : World) (h1 : 1 ≤ n) (h6 : n ≤ 6) (a : Addr) (ha : a0 = some a) (hl : l.length = n) (h7 : ∀ p ∈ l, p ≤ 7) (hza : ZAt w a l) (c t : Int) (Q : Nat → Int) (hQ1 : Q 1 = 1) (hQ2 : ∀ k, 1 ≤ k → Q (k + 1) = 24 * Q k) (hQ3 : ∀ k, 0 ≤ Q k) (hQ4 : ∀ k, k ≤ 6 → Q k ≤ 7962624) (hc : t = 1 → c = Q n)
    (cp : ∀ W, Below w.heap.size w W → Calls Try.prog 59 #[.slice a0 n cap0] W fun e w' => ∃ v, e = .returned v ∧ RdC w' v l ∧ Below W.heap.size W w')
    (pf : ∀ W v, RdC W v l → Calls Try.prog 62 #[.agg #[.int .i64 x.w, .int .i64 x.x, .int .i64 x.y, .int .i64 x.z, .int .i64 x.d], v] W fun e w' => e = .returned (.tuple #[.int .i64 c, .int .i64 0]) ∧ Below W.heap.size W w')
    (ea : ∀ w, Calls Try.prog 16 #[.agg #[.int .i64 x.w, .int .i64 x.x, .int .i64 x.y, .int .i64 x.z, .int .i64 x.d]] w fun e w' => e = .returned (.int .i64 0) ∧ Below w.heap.size w w')
    (ox : ∀ w, Calls Try.prog 17 #[.agg #[.int .i64 x.w, .int .i64 x.x, .int .i64 x.y, .int .i64 x.z, .int .i64 x.d]] w fun e w' => e = .returned (.tuple #[.agg #[.int .i64 X.w, .int .i64 X.x, .int .i64 X.y, .int .i64 X.z], .bool true]) ∧ Below w.heap.size w w')
    (me : ∀ W, Below w.heap.size w W → Calls Try.prog 60 #[.agg #[.int .i64 X.w, .int .i64 X.x, .int .i64 X.y, .int .i64 X.z], .slice a0 n cap0] W fun e w' => e = .returned (.int .i64 0) ∧ Below W.heap.size W w')
    (ct : ∀ w, Calls Try.prog 44 #[.agg #[.int .i64 X.w, .int .i64 X.x, .int .i64 X.y, .int .i64 X.z]] w fun e w' => e = .returned (.int .i64 t) ∧ Below w.heap.size w w')
    (rc : ∀ W, Below w.heap.size w W → Calls Try.prog 63 #[.agg #[.int .i64 X.w, .int .i64 X.x, .int .i64 X.y, .int .i64 X.z], .slice a0 n cap0] W fun e w' => e = .returned (.int .i64 c) ∧ Below W.heap.size W w') :
    Calls Try.prog 13 #[.agg #[.int .i64 x.w, .int .i64 x.x, .int .i64 x.y, .int .i64 x.z, .int .i64 x.d], .slice a0 n cap0] w fun e w' => e = .returned (.bool true) ∧ Below w.heap.size w w' := by
  have CP : Hid _ := cp; have PF : Hid _ := pf; have EA : Hid _ := ea; have OX : Hid _ := ox; have ME : Hid _ := me; have CT : Hid _ := ct; have RC : Hid _ := rc; have HL : Hid _ := hl; have H7 : Hid _ := h7; have HZA := Lib.hid hza; have HQ1 : Hid _ := hQ1; have HQ2 : Hid _ := hQ2; have HQ3 : Hid _ := hQ3; have HQ4 : Hid _ := hQ4; have HC : Hid _ := hc
  clear cp pf ea ox me ct rc hl h7 hza hQ1 hQ2 hQ3 hQ4 hc
  subst ha
  go_enter Try.func13, Try.ntmps13
  go_upto_region 6 with (first | (go_at_call 14; with_reducible refine (awake_any _).mono ?_; rintro e w1 ⟨rfl, hb1⟩; obtain ⟨g1, rfl⟩ := more_of_below hb1; clear hb1) | (go_at_call 16; with_reducible refine (EA.out _).mono ?_; rintro e w4 ⟨rfl, hb4⟩; obtain ⟨g4, rfl⟩ := more_of_below hb4; clear hb4))
  go_cut [6, 7] from 20 to 24 (fun s6 s7 wx => ∃ b6, s6 = .pointer (some ⟨b6, 0, none⟩) ∧ s7 = .bool true ∧ Below w.heap.size w wx ∧ w.heap.size < wx.heap.size ∧ b6 < wx.heap.size ∧ wx.cell? ⟨b6, 0, none⟩ = some (.int .i64 X.w) ∧ wx.cell? ⟨b6, 1, none⟩ = some (.int .i64 X.x) ∧ wx.cell? ⟨b6, 2, none⟩ = some (.int .i64 X.y) ∧ wx.cell? ⟨b6, 3, none⟩ = some (.int .i64 X.z) ∧ wx.cell? ⟨w.heap.size, 0, none⟩ = some (.int .i64 x.w) ∧ wx.cell? ⟨w.heap.size, 1, none⟩ = some (.int .i64 x.x) ∧ wx.cell? ⟨w.heap.size, 2, none⟩ = some (.int .i64 x.y) ∧ wx.cell? ⟨w.heap.size, 3, none⟩ = some (.int .i64 x.z) ∧ wx.cell? ⟨w.heap.size, 4, none⟩ = some (.int .i64 x.d))
  case first =>
    go_wp2_with (first | (go_at_call 17; with_reducible refine (OX.out _).mono ?_; rintro e w5 ⟨rfl, hb5⟩; obtain ⟨g5, rfl⟩ := more_of_below hb5; clear hb5))
    go_meet
    refine ⟨_, rfl, rfl, by (repeat (first | with_reducible assumption | with_reducible exact Below.refl _ _ | with_reducible refine Below.drewN ?_ _ | with_reducible refine Below.drew ?_ | with_reducible refine Below.alloc ?_ (by first | omega | (simp; done) | (simp; omega)) _ | with_reducible refine Below.setCell ?_ (by first | omega | (simp; done) | (simp; omega)) _ | with_reducible refine below_more _ _ ?_ (by first | omega | (simp; done) | (simp; omega)))), ?_, ?_, ?_, ?_, ?_, ?_, ?_, ?_, ?_, ?_, ?_⟩
    all_goals (first | (go_simp; done) | (simp only [size_more_eq, World.size_alloc]; omega) | (simp; omega))
  case rest =>
    obtain ⟨b6, rfl, rfl, hB, lw, l6, h0, h1', h2, h3, x0, x1, x2, x3, x4⟩ := hcut
    obtain ⟨w1, rfl⟩ : ∃ w1 : World, w1 = wc := ⟨_, rfl⟩
    go_wp2_with (first | (go_at_call 60; (with_reducible refine (ME.out _ ?_).mono ?_); (focus ((repeat (first | with_reducible assumption | with_reducible exact Below.refl _ _ | with_reducible refine Below.drewN ?_ _ | with_reducible refine Below.drew ?_ | with_reducible refine Below.alloc ?_ (by first | omega | (simp; done) | (simp; omega)) _ | with_reducible refine Below.setCell ?_ (by first | omega | (simp; done) | (simp; omega)) _ | with_reducible refine below_more _ _ ?_ (by first | omega | (simp; done) | (simp; omega)))))); rintro e w6 ⟨rfl, hb6⟩; obtain ⟨g6, rfl⟩ := more_of_below hb6; clear hb6))
    go_loopw [8] (fun i wr => ∃ k : Nat, k ≤ n ∧ i = .int .i64 k ∧ Ext w1 wr) (fun i _ => n - (intOf i).toNat)
    case atStart => exact ⟨0, by omega, rfl, ext_mk (by (repeat (first | with_reducible assumption | with_reducible exact Below.refl _ _ | with_reducible refine Below.drewN ?_ _ | with_reducible refine Below.drew ?_ | with_reducible refine Below.alloc ?_ (by first | omega | (simp; done) | (simp; omega)) _ | with_reducible refine Below.setCell ?_ (by first | omega | (simp; done) | (simp; omega)) _ | with_reducible refine below_more _ _ ?_ (by first | omega | (simp; done) | (simp; omega)))))⟩
    case round =>
      obtain ⟨k, hk, rfl, hext⟩ := hrel
      obtain ⟨gx, rfl⟩ := more_of_below (Ext.below hext)
      clear hext
      by_cases hkn : k < n
      · obtain ⟨q, hq⟩ : ∃ q, l[k]? = some q := ⟨l[k]'(by rw [HL.out]; omega), List.getElem?_eq_getElem _⟩
        have hBx : Below w.heap.size w (more w1 gx) := by (repeat (first | with_reducible assumption | with_reducible exact Below.refl _ _ | with_reducible refine Below.drewN ?_ _ | with_reducible refine Below.drew ?_ | with_reducible refine Below.alloc ?_ (by first | omega | (simp; done) | (simp; omega)) _ | with_reducible refine Below.setCell ?_ (by first | omega | (simp; done) | (simp; omega)) _ | with_reducible refine below_more _ _ ?_ (by first | omega | (simp; done) | (simp; omega))))
        have cq := (HZA.out.below hBx (Nat.le_refl _)) k q hq
        have kn : (k : Int) < (n : Int) := by omega
        have q7 := H7.out q (List.mem_of_getElem? hq)
        clear hq hBx
        go_wp2_with fail
        go_roundw
        case rel => exact ⟨k + 1, by omega, by go_num, ext_mk (by (repeat (first | with_reducible assumption | with_reducible exact Below.refl _ _ | with_reducible refine Below.drewN ?_ _ | with_reducible refine Below.drew ?_ | with_reducible refine Below.alloc ?_ (by first | omega | (simp; done) | (simp; omega)) _ | with_reducible refine Below.setCell ?_ (by first | omega | (simp; done) | (simp; omega)) _ | with_reducible refine below_more _ _ ?_ (by first | omega | (simp; done) | (simp; omega)))))⟩
        case measure => simp [intOf]; omega
      · obtain rfl : k = n := by omega
        have ccn : (c != c) = false := by simp
        have kk : ¬ (k : Int) < (k : Int) := by omega
        go_upto_region 14 with fail
        go_cut [9, 10] from 45 to 51 (fun s9 s10 wx => s9 = .int .i64 c ∧ s10 = .int .i64 0 ∧ Ext w1 wx)
        case first =>
          go_region_with (first | (go_at_call 59; (with_reducible refine (CP.out _ ?_).mono ?_); (focus ((repeat (first | with_reducible assumption | with_reducible exact Below.refl _ _ | with_reducible refine Below.drewN ?_ _ | with_reducible refine Below.drew ?_ | with_reducible refine Below.alloc ?_ (by first | omega | (simp; done) | (simp; omega)) _ | with_reducible refine Below.setCell ?_ (by first | omega | (simp; done) | (simp; omega)) _ | with_reducible refine below_more _ _ ?_ (by first | omega | (simp; done) | (simp; omega)))))); rintro e w2 ⟨v2, rfl, hv2, hb2⟩; have HV := Lib.hid hv2; clear hv2; obtain ⟨g2, rfl⟩ := more_of_below hb2; clear hb2) | (go_at_call 62; (with_reducible refine (PF.out _ _ ?_).mono ?_); (focus (exact HV.out)); rintro e w3 ⟨rfl, hb3⟩; obtain ⟨g3, rfl⟩ := more_of_below hb3; clear hb3))
          all_goals (go_wp2_with fail; go_meet; refine ⟨rfl, rfl, ext_mk (by (repeat (first | with_reducible assumption | with_reducible exact Below.refl _ _ | with_reducible refine Below.drewN ?_ _ | with_reducible refine Below.drew ?_ | with_reducible refine Below.alloc ?_ (by first | omega | (simp; done) | (simp; omega)) _ | with_reducible refine Below.setCell ?_ (by first | omega | (simp; done) | (simp; omega)) _ | with_reducible refine below_more _ _ ?_ (by first | omega | (simp; done) | (simp; omega)))))⟩)
          all_goals (first | (go_simp; done) | (simp only [size_more_eq, World.size_alloc]; omega) | (simp; omega) | ((repeat (first | with_reducible assumption | with_reducible exact Below.refl _ _ | with_reducible refine Below.drewN ?_ _ | with_reducible refine Below.drew ?_ | with_reducible refine Below.alloc ?_ (by first | omega | (simp; done) | (simp; omega)) _ | with_reducible refine Below.setCell ?_ (by first | omega | (simp; done) | (simp; omega)) _ | with_reducible refine below_more _ _ ?_ (by first | omega | (simp; done) | (simp; omega))))))
        case rest =>
          obtain ⟨rfl, rfl, hext⟩ := hcut
          obtain ⟨gz, rfl⟩ := more_of_below (Ext.below hext)
          clear hext
          go_wp2_with (first | (go_at_call 63; (with_reducible refine (RC.out _ ?_).mono ?_); (focus ((repeat (first | with_reducible assumption | with_reducible exact Below.refl _ _ | with_reducible refine Below.drewN ?_ _ | with_reducible refine Below.drew ?_ | with_reducible refine Below.alloc ?_ (by first | omega | (simp; done) | (simp; omega)) _ | with_reducible refine Below.setCell ?_ (by first | omega | (simp; done) | (simp; omega)) _ | with_reducible refine below_more _ _ ?_ (by first | omega | (simp; done) | (simp; omega)))))); rintro e w9 ⟨rfl, hb9⟩; obtain ⟨g9, rfl⟩ := more_of_below hb9; clear hb9))
          go_loopw [11, 12] (fun p i wr => ∃ j : Nat, 1 ≤ j ∧ j ≤ k ∧ i = .int .i64 j ∧ p = .int .i64 (Q j) ∧ Ext w1 wr) (fun _ i _ => k - (intOf i).toNat)
          case atStart => exact ⟨1, by omega, h1, rfl, by rw [HQ1.out], ext_mk (by (repeat (first | with_reducible assumption | with_reducible exact Below.refl _ _ | with_reducible refine Below.drewN ?_ _ | with_reducible refine Below.drew ?_ | with_reducible refine Below.alloc ?_ (by first | omega | (simp; done) | (simp; omega)) _ | with_reducible refine Below.setCell ?_ (by first | omega | (simp; done) | (simp; omega)) _ | with_reducible refine below_more _ _ ?_ (by first | omega | (simp; done) | (simp; omega)))))⟩
          case round =>
            obtain ⟨j, hj1, hj, rfl, rfl, hext⟩ := hrel
            obtain ⟨gy, rfl⟩ := more_of_below (Ext.below hext)
            clear hext
            have b1 := HQ3.out j
            have b2 := HQ4.out j (by omega)
            by_cases hjk : j < k
            · have jk : (j : Int) < (k : Int) := by omega
              go_wp2_with fail
              go_roundw
              case rel => exact ⟨j + 1, by omega, by omega, by go_num, by rw [HQ2.out j hj1], ext_mk (by (repeat (first | with_reducible assumption | with_reducible exact Below.refl _ _ | with_reducible refine Below.drewN ?_ _ | with_reducible refine Below.drew ?_ | with_reducible refine Below.alloc ?_ (by first | omega | (simp; done) | (simp; omega)) _ | with_reducible refine Below.setCell ?_ (by first | omega | (simp; done) | (simp; omega)) _ | with_reducible refine below_more _ _ ?_ (by first | omega | (simp; done) | (simp; omega)))))⟩
              case measure => simp [intOf]; omega
            · obtain rfl : j = k := by omega
              by_cases ht : t = 1
              · have t1 : (t != 1) = false := by simpa using ht
                have cQ : (c == Q j) = true := by simpa using HC.out ht
                clear ht
                go_wp2_with (first | (go_at_call 44; with_reducible refine (CT.out _).mono ?_; rintro e w7 ⟨rfl, hb7⟩; obtain ⟨g7, rfl⟩ := more_of_below hb7; clear hb7))
                go_ret
                exact ⟨rfl, by (repeat (first | with_reducible assumption | with_reducible exact Below.refl _ _ | with_reducible refine Below.drewN ?_ _ | with_reducible refine Below.drew ?_ | with_reducible refine Below.alloc ?_ (by first | omega | (simp; done) | (simp; omega)) _ | with_reducible refine Below.setCell ?_ (by first | omega | (simp; done) | (simp; omega)) _ | with_reducible refine below_more _ _ ?_ (by first | omega | (simp; done) | (simp; omega))))⟩
              · have t1 : (t != 1) = true := by simpa using ht
                clear ht
                go_wp2_with (first | (go_at_call 44; with_reducible refine (CT.out _).mono ?_; rintro e w7 ⟨rfl, hb7⟩; obtain ⟨g7, rfl⟩ := more_of_below hb7; clear hb7))
                go_ret
                exact ⟨rfl, by (repeat (first | with_reducible assumption | with_reducible exact Below.refl _ _ | with_reducible refine Below.drewN ?_ _ | with_reducible refine Below.drew ?_ | with_reducible refine Below.alloc ?_ (by first | omega | (simp; done) | (simp; omega)) _ | with_reducible refine Below.setCell ?_ (by first | omega | (simp; done) | (simp; omega)) _ | with_reducible refine below_more _ _ ?_ (by first | omega | (simp; done) | (simp; omega))))⟩
end Go.Proofs.Ythajaabgcbjfkaa
