/- The law RotationDivides: the walk. -/
import Derived.Test.YthajaabgcbjfkaaD2
import Derived.Test.YthajaabgcbjfkaaW1
namespace Go.Proofs.Ythajaabgcbjfkaa
open Go.RowKit

set_option maxRecDepth 100000 in
set_option maxHeartbeats 2000000 in
theorem divides_err (x y : Qd) (d : Int) (hd : d ≠ 0) (vx vy : Qt) (bx by_ : Bool) (he : ∀ w, Calls Try.prog 15 #[.agg #[.int .i64 x.w, .int .i64 x.x, .int .i64 x.y, .int .i64 x.z, .int .i64 x.d], .agg #[.int .i64 y.w, .int .i64 y.x, .int .i64 y.y, .int .i64 y.z, .int .i64 y.d]] w fun e w' => e = .returned (.tuple #[.agg #[.int .i64 0, .int .i64 0, .int .i64 0, .int .i64 0, .int .i64 0, .int .i64 0, .int .i64 0, .int .i64 0, .int .i64 0, .int .i64 0], .int .i64 d]) ∧ Below w.heap.size w w')
    (ox : ∀ w, Calls Try.prog 17 #[.agg #[.int .i64 x.w, .int .i64 x.x, .int .i64 x.y, .int .i64 x.z, .int .i64 x.d]] w fun e w' => e = .returned (.tuple #[.agg #[.int .i64 vx.w, .int .i64 vx.x, .int .i64 vx.y, .int .i64 vx.z], .bool bx]) ∧ Below w.heap.size w w')
    (oy : ∀ w, Calls Try.prog 17 #[.agg #[.int .i64 y.w, .int .i64 y.x, .int .i64 y.y, .int .i64 y.z, .int .i64 y.d]] w fun e w' => e = .returned (.tuple #[.agg #[.int .i64 vy.w, .int .i64 vy.x, .int .i64 vy.y, .int .i64 vy.z], .bool by_]) ∧ Below w.heap.size w w')
    (a b : Int) (ea : ∀ w, Calls Try.prog 16 #[.agg #[.int .i64 x.w, .int .i64 x.x, .int .i64 x.y, .int .i64 x.z, .int .i64 x.d]] w fun e w' => e = .returned (.int .i64 a) ∧ Below w.heap.size w w')
    (eb : ∀ w, Calls Try.prog 16 #[.agg #[.int .i64 y.w, .int .i64 y.x, .int .i64 y.y, .int .i64 y.z, .int .i64 y.d]] w fun e w' => e = .returned (.int .i64 b) ∧ Below w.heap.size w w')
    (hab : (a ≠ 0 ∧ d = a) ∨ (a = 0 ∧ d = b)) (w : World) :
    Calls Try.prog 3 #[.agg #[.int .i64 x.w, .int .i64 x.x, .int .i64 x.y, .int .i64 x.z, .int .i64 x.d], .agg #[.int .i64 y.w, .int .i64 y.x, .int .i64 y.y, .int .i64 y.z, .int .i64 y.d]] w fun e w' => e = .returned (.bool true) ∧ Below w.heap.size w w' := by
  have HE := Lib.hid he; have OX := Lib.hid ox; have OY := Lib.hid oy; have EA := Lib.hid ea; have EB := Lib.hid eb
  clear he ox oy ea eb
  have hd1 : (d == 0) = false := by simpa using hd
  have hd2 : (d != 0) = true := by simpa using hd
  rcases hab with ⟨ha, rfl⟩ | ⟨rfl, rfl⟩
  · clear hd
    go_enter Try.func3, Try.ntmps3
    go_wp2_with (first | (go_at_call 14; with_reducible refine (awake_any _).mono ?_; rintro e w1 ⟨rfl, hb1⟩; obtain ⟨g1, rfl⟩ := more_of_below hb1; clear hb1) | (go_at_call 15; with_reducible refine (HE.out _).mono ?_; rintro e w2 ⟨rfl, hb2⟩; obtain ⟨g2, rfl⟩ := more_of_below hb2; clear hb2) | (go_at_call 16; with_reducible refine (EA.out _).mono ?_; rintro e w3 ⟨rfl, hb3⟩; obtain ⟨g3, rfl⟩ := more_of_below hb3; clear hb3) | (go_at_call 17; first | ((with_reducible refine (OX.out _).mono ?_); rintro e w5 ⟨rfl, hb5⟩; obtain ⟨g5, rfl⟩ := more_of_below hb5; clear hb5) | ((with_reducible refine (OY.out _).mono ?_); rintro e w6 ⟨rfl, hb6⟩; obtain ⟨g6, rfl⟩ := more_of_below hb6; clear hb6)))
    go_ret
    exact ⟨rfl, by (repeat (first | with_reducible assumption | with_reducible exact Below.refl _ _ | with_reducible refine Below.drewN ?_ _ | with_reducible refine Below.drew ?_ | with_reducible refine Below.alloc ?_ (by first | omega | (simp; done) | (simp; omega)) _ | with_reducible refine Below.setCell ?_ (by first | omega | (simp; done) | (simp; omega)) _ | with_reducible refine below_more _ _ ?_ (by first | omega | (simp; done) | (simp; omega))))⟩
  · clear hd
    go_enter Try.func3, Try.ntmps3
    go_wp2_with (first | (go_at_call 14; with_reducible refine (awake_any _).mono ?_; rintro e w1 ⟨rfl, hb1⟩; obtain ⟨g1, rfl⟩ := more_of_below hb1; clear hb1) | (go_at_call 15; with_reducible refine (HE.out _).mono ?_; rintro e w2 ⟨rfl, hb2⟩; obtain ⟨g2, rfl⟩ := more_of_below hb2; clear hb2) | (go_at_call 16; first | ((with_reducible refine (EA.out _).mono ?_); rintro e w3 ⟨rfl, hb3⟩; obtain ⟨g3, rfl⟩ := more_of_below hb3; clear hb3) | ((with_reducible refine (EB.out _).mono ?_); rintro e w4 ⟨rfl, hb4⟩; obtain ⟨g4, rfl⟩ := more_of_below hb4; clear hb4)) | (go_at_call 17; first | ((with_reducible refine (OX.out _).mono ?_); rintro e w5 ⟨rfl, hb5⟩; obtain ⟨g5, rfl⟩ := more_of_below hb5; clear hb5) | ((with_reducible refine (OY.out _).mono ?_); rintro e w6 ⟨rfl, hb6⟩; obtain ⟨g6, rfl⟩ := more_of_below hb6; clear hb6)))
    go_ret
    exact ⟨rfl, by (repeat (first | with_reducible assumption | with_reducible exact Below.refl _ _ | with_reducible refine Below.drewN ?_ _ | with_reducible refine Below.drew ?_ | with_reducible refine Below.alloc ?_ (by first | omega | (simp; done) | (simp; omega)) _ | with_reducible refine Below.setCell ?_ (by first | omega | (simp; done) | (simp; omega)) _ | with_reducible refine below_more _ _ ?_ (by first | omega | (simp; done) | (simp; omega))))⟩

set_option maxRecDepth 100000 in
set_option maxHeartbeats 2000000 in
theorem divides_zero (x y : Qd) (vx vy : Qt) (bx by_ : Bool) (he : ∀ w, Calls Try.prog 15 #[.agg #[.int .i64 x.w, .int .i64 x.x, .int .i64 x.y, .int .i64 x.z, .int .i64 x.d], .agg #[.int .i64 y.w, .int .i64 y.x, .int .i64 y.y, .int .i64 y.z, .int .i64 y.d]] w fun e w' => e = .returned (.tuple #[.agg #[.int .i64 0, .int .i64 0, .int .i64 0, .int .i64 0, .int .i64 0, .int .i64 0, .int .i64 0, .int .i64 0, .int .i64 0, .int .i64 0], .int .i64 10]) ∧ Below w.heap.size w w')
    (ox : ∀ w, Calls Try.prog 17 #[.agg #[.int .i64 x.w, .int .i64 x.x, .int .i64 x.y, .int .i64 x.z, .int .i64 x.d]] w fun e w' => e = .returned (.tuple #[.agg #[.int .i64 vx.w, .int .i64 vx.x, .int .i64 vx.y, .int .i64 vx.z], .bool bx]) ∧ Below w.heap.size w w')
    (oy : ∀ w, Calls Try.prog 17 #[.agg #[.int .i64 y.w, .int .i64 y.x, .int .i64 y.y, .int .i64 y.z, .int .i64 y.d]] w fun e w' => e = .returned (.tuple #[.agg #[.int .i64 vy.w, .int .i64 vy.x, .int .i64 vy.y, .int .i64 vy.z], .bool by_]) ∧ Below w.heap.size w w')
    (ea : ∀ w, Calls Try.prog 16 #[.agg #[.int .i64 x.w, .int .i64 x.x, .int .i64 x.y, .int .i64 x.z, .int .i64 x.d]] w fun e w' => e = .returned (.int .i64 0) ∧ Below w.heap.size w w')
    (eb : ∀ w, Calls Try.prog 16 #[.agg #[.int .i64 y.w, .int .i64 y.x, .int .i64 y.y, .int .i64 y.z, .int .i64 y.d]] w fun e w' => e = .returned (.int .i64 0) ∧ Below w.heap.size w w')
    (cz : ∀ w, Calls Try.prog 18 #[.agg #[.int .i64 vy.w, .int .i64 vy.x, .int .i64 vy.y, .int .i64 vy.z]] w fun e w' => e = .returned (.bool true) ∧ Below w.heap.size w w') (w : World) :
    Calls Try.prog 3 #[.agg #[.int .i64 x.w, .int .i64 x.x, .int .i64 x.y, .int .i64 x.z, .int .i64 x.d], .agg #[.int .i64 y.w, .int .i64 y.x, .int .i64 y.y, .int .i64 y.z, .int .i64 y.d]] w fun e w' => e = .returned (.bool true) ∧ Below w.heap.size w w' := by
  have HE := Lib.hid he; have OX := Lib.hid ox; have OY := Lib.hid oy; have EA := Lib.hid ea; have EB := Lib.hid eb; have CZ := Lib.hid cz
  clear he ox oy ea eb cz
  go_enter Try.func3, Try.ntmps3
  go_wp2_with (first | (go_at_call 14; with_reducible refine (awake_any _).mono ?_; rintro e w1 ⟨rfl, hb1⟩; obtain ⟨g1, rfl⟩ := more_of_below hb1; clear hb1) | (go_at_call 15; with_reducible refine (HE.out _).mono ?_; rintro e w2 ⟨rfl, hb2⟩; obtain ⟨g2, rfl⟩ := more_of_below hb2; clear hb2) | (go_at_call 16; first | ((with_reducible refine (EA.out _).mono ?_); rintro e w3 ⟨rfl, hb3⟩; obtain ⟨g3, rfl⟩ := more_of_below hb3; clear hb3) | ((with_reducible refine (EB.out _).mono ?_); rintro e w4 ⟨rfl, hb4⟩; obtain ⟨g4, rfl⟩ := more_of_below hb4; clear hb4)) | (go_at_call 17; first | ((with_reducible refine (OX.out _).mono ?_); rintro e w5 ⟨rfl, hb5⟩; obtain ⟨g5, rfl⟩ := more_of_below hb5; clear hb5) | ((with_reducible refine (OY.out _).mono ?_); rintro e w6 ⟨rfl, hb6⟩; obtain ⟨g6, rfl⟩ := more_of_below hb6; clear hb6)) | (go_at_call 18; with_reducible refine (CZ.out _).mono ?_; rintro e w7 ⟨rfl, hb7⟩; obtain ⟨g7, rfl⟩ := more_of_below hb7; clear hb7))
  go_ret
  exact ⟨rfl, by (repeat (first | with_reducible assumption | with_reducible exact Below.refl _ _ | with_reducible refine Below.drewN ?_ _ | with_reducible refine Below.drew ?_ | with_reducible refine Below.alloc ?_ (by first | omega | (simp; done) | (simp; omega)) _ | with_reducible refine Below.setCell ?_ (by first | omega | (simp; done) | (simp; omega)) _ | with_reducible refine below_more _ _ ?_ (by first | omega | (simp; done) | (simp; omega))))⟩

set_option maxRecDepth 100000 in
set_option maxHeartbeats 4000000 in
theorem divides_ok (x y : Qd) (X Y A R P M1 M2 : Qt) (n1 n2 : Int) (hn : n1 < n2) (he : ∀ w, Calls Try.prog 15 #[.agg #[.int .i64 x.w, .int .i64 x.x, .int .i64 x.y, .int .i64 x.z, .int .i64 x.d], .agg #[.int .i64 y.w, .int .i64 y.x, .int .i64 y.y, .int .i64 y.z, .int .i64 y.d]] w fun e w' => e = .returned (.tuple #[.agg #[.int .i64 A.toQ.w, .int .i64 A.toQ.x, .int .i64 A.toQ.y, .int .i64 A.toQ.z, .int .i64 A.toQ.d, .int .i64 R.toQ.w, .int .i64 R.toQ.x, .int .i64 R.toQ.y, .int .i64 R.toQ.z, .int .i64 R.toQ.d], .int .i64 0]) ∧ Below w.heap.size w w')
    (ox : ∀ w, Calls Try.prog 17 #[.agg #[.int .i64 x.w, .int .i64 x.x, .int .i64 x.y, .int .i64 x.z, .int .i64 x.d]] w fun e w' => e = .returned (.tuple #[.agg #[.int .i64 X.w, .int .i64 X.x, .int .i64 X.y, .int .i64 X.z], .bool true]) ∧ Below w.heap.size w w')
    (oy : ∀ w, Calls Try.prog 17 #[.agg #[.int .i64 y.w, .int .i64 y.x, .int .i64 y.y, .int .i64 y.z, .int .i64 y.d]] w fun e w' => e = .returned (.tuple #[.agg #[.int .i64 Y.w, .int .i64 Y.x, .int .i64 Y.y, .int .i64 Y.z], .bool true]) ∧ Below w.heap.size w w')
    (ea : ∀ w, Calls Try.prog 16 #[.agg #[.int .i64 x.w, .int .i64 x.x, .int .i64 x.y, .int .i64 x.z, .int .i64 x.d]] w fun e w' => e = .returned (.int .i64 0) ∧ Below w.heap.size w w')
    (eb : ∀ w, Calls Try.prog 16 #[.agg #[.int .i64 y.w, .int .i64 y.x, .int .i64 y.y, .int .i64 y.z, .int .i64 y.d]] w fun e w' => e = .returned (.int .i64 0) ∧ Below w.heap.size w w')
    (cz : ∀ w, Calls Try.prog 18 #[.agg #[.int .i64 Y.w, .int .i64 Y.x, .int .i64 Y.y, .int .i64 Y.z]] w fun e w' => e = .returned (.bool false) ∧ Below w.heap.size w w')
    (cr : ∀ w, Calls Try.prog 19 #[.agg #[.int .i64 X.w, .int .i64 X.x, .int .i64 X.y, .int .i64 X.z], .agg #[.int .i64 Y.w, .int .i64 Y.x, .int .i64 Y.y, .int .i64 Y.z]] w fun e w' => e = .returned (.tuple #[.agg #[.int .i64 A.w, .int .i64 A.x, .int .i64 A.y, .int .i64 A.z], .agg #[.int .i64 R.w, .int .i64 R.x, .int .i64 R.y, .int .i64 R.z]]) ∧ Below w.heap.size w w')
    (q1 : ∀ w, Calls Try.prog 20 #[.agg #[.int .i64 A.w, .int .i64 A.x, .int .i64 A.y, .int .i64 A.z]] w fun e w' => e = .returned (.agg #[.int .i64 A.toQ.w, .int .i64 A.toQ.x, .int .i64 A.toQ.y, .int .i64 A.toQ.z, .int .i64 A.toQ.d]) ∧ Below w.heap.size w w')
    (q2 : ∀ w, Calls Try.prog 20 #[.agg #[.int .i64 R.w, .int .i64 R.x, .int .i64 R.y, .int .i64 R.z]] w fun e w' => e = .returned (.agg #[.int .i64 R.toQ.w, .int .i64 R.toQ.x, .int .i64 R.toQ.y, .int .i64 R.toQ.z, .int .i64 R.toQ.d]) ∧ Below w.heap.size w w')
    (c1 : ∀ w, Calls Try.prog 21 #[.agg #[.int .i64 R.w, .int .i64 R.x, .int .i64 R.y, .int .i64 R.z]] w fun e w' => e = .returned (.int .i64 n1) ∧ Below w.heap.size w w')
    (c2 : ∀ w, Calls Try.prog 21 #[.agg #[.int .i64 Y.w, .int .i64 Y.x, .int .i64 Y.y, .int .i64 Y.z]] w fun e w' => e = .returned (.int .i64 n2) ∧ Below w.heap.size w w')
    (ct : ∀ w, Calls Try.prog 23 #[.agg #[.int .i64 Y.w, .int .i64 Y.x, .int .i64 Y.y, .int .i64 Y.z], .agg #[.int .i64 A.w, .int .i64 A.x, .int .i64 A.y, .int .i64 A.z]] w fun e w' => e = .returned (.agg #[.int .i64 P.w, .int .i64 P.x, .int .i64 P.y, .int .i64 P.z]) ∧ Below w.heap.size w w')
    (m1 : ∀ w, Calls Try.prog 22 #[.agg #[.int .i64 0, .int .i64 0, .int .i64 0, .int .i64 0], .agg #[.int .i64 P.w, .int .i64 P.x, .int .i64 P.y, .int .i64 P.z]] w fun e w' => e = .returned (.agg #[.int .i64 M1.w, .int .i64 M1.x, .int .i64 M1.y, .int .i64 M1.z]) ∧ Below w.heap.size w w')
    (m2 : ∀ w, Calls Try.prog 22 #[.agg #[.int .i64 M1.w, .int .i64 M1.x, .int .i64 M1.y, .int .i64 M1.z], .agg #[.int .i64 R.w, .int .i64 R.x, .int .i64 R.y, .int .i64 R.z]] w fun e w' => e = .returned (.agg #[.int .i64 M2.w, .int .i64 M2.x, .int .i64 M2.y, .int .i64 M2.z]) ∧ Below w.heap.size w w')
    (m3 : ∀ w, Calls Try.prog 22 #[.agg #[.int .i64 0, .int .i64 0, .int .i64 0, .int .i64 0], .agg #[.int .i64 M2.w, .int .i64 M2.x, .int .i64 M2.y, .int .i64 M2.z]] w fun e w' => e = .returned (.agg #[.int .i64 X.w, .int .i64 X.x, .int .i64 X.y, .int .i64 X.z]) ∧ Below w.heap.size w w') (w : World) :
    Calls Try.prog 3 #[.agg #[.int .i64 x.w, .int .i64 x.x, .int .i64 x.y, .int .i64 x.z, .int .i64 x.d], .agg #[.int .i64 y.w, .int .i64 y.x, .int .i64 y.y, .int .i64 y.z, .int .i64 y.d]] w fun e w' => e = .returned (.bool true) ∧ Below w.heap.size w w' := by
  have HE := Lib.hid he; have OX := Lib.hid ox; have OY := Lib.hid oy; have EA := Lib.hid ea; have EB := Lib.hid eb; have CZ := Lib.hid cz
  have CR := Lib.hid cr; have Q1 := Lib.hid q1; have Q2 := Lib.hid q2; have C1 := Lib.hid c1; have C2 := Lib.hid c2; have CT := Lib.hid ct
  have H1 := Lib.hid m1; have H2 := Lib.hid m2; have H3 := Lib.hid m3
  clear he ox oy ea eb cz cr q1 q2 c1 c2 ct m1 m2 m3
  generalize A.toQ = qA at *
  generalize R.toQ = qR at *
  have hXX : Qt.eqb ⟨X.w, X.x, X.y, X.z⟩ ⟨X.w, X.x, X.y, X.z⟩ = true := Qt.eqb_iff.2 rfl
  go_enter Try.func3, Try.ntmps3
  go_wp2_with (first | (go_at_call 14; with_reducible refine (awake_any _).mono ?_; rintro e w1 ⟨rfl, hb1⟩; obtain ⟨g1, rfl⟩ := more_of_below hb1; clear hb1) | (go_at_call 15; with_reducible refine (HE.out _).mono ?_; rintro e w2 ⟨rfl, hb2⟩; obtain ⟨g2, rfl⟩ := more_of_below hb2; clear hb2) | (go_at_call 16; first | ((with_reducible refine (EA.out _).mono ?_); rintro e w3 ⟨rfl, hb3⟩; obtain ⟨g3, rfl⟩ := more_of_below hb3; clear hb3) | ((with_reducible refine (EB.out _).mono ?_); rintro e w4 ⟨rfl, hb4⟩; obtain ⟨g4, rfl⟩ := more_of_below hb4; clear hb4)) | (go_at_call 17; first | ((with_reducible refine (OX.out _).mono ?_); rintro e w5 ⟨rfl, hb5⟩; obtain ⟨g5, rfl⟩ := more_of_below hb5; clear hb5) | ((with_reducible refine (OY.out _).mono ?_); rintro e w6 ⟨rfl, hb6⟩; obtain ⟨g6, rfl⟩ := more_of_below hb6; clear hb6)) | (go_at_call 18; with_reducible refine (CZ.out _).mono ?_; rintro e w7 ⟨rfl, hb7⟩; obtain ⟨g7, rfl⟩ := more_of_below hb7; clear hb7) | (go_at_call 19; with_reducible refine (CR.out _).mono ?_; rintro e w8 ⟨rfl, hb8⟩; obtain ⟨g8, rfl⟩ := more_of_below hb8; clear hb8))
  (refine wp_region_calm_tail 36 (Ext _) (by kernel_rfl) (by kernel_rfl) (Ext.start _) ?_; simp only [List.take_succ_cons, List.take_zero, List.drop_succ_cons, List.drop_zero]; (repeat (refine wpQuiet_step (fun K hK => ?_); go_simp; (try go_bits); apply Exists.intro; refine ⟨fun w' hw' => ?_, hK _ ?_⟩; (focus (first | with_reducible exact rfl | (go_at_call 20; (first | with_reducible exact Ext.call hw' (Q1.out _) | with_reducible exact Ext.call hw' (Q2.out _))) | (go_at_call 21; (first | with_reducible exact Ext.call hw' (C1.out _) | with_reducible exact Ext.call hw' (C2.out _))) | (go_at_call 23; (with_reducible exact Ext.call hw' (CT.out _))) | (go_at_call 22; (first | with_reducible exact Ext.call hw' (H1.out _) | with_reducible exact Ext.call hw' (H2.out _) | with_reducible exact Ext.call hw' (H3.out _))) | (obtain ⟨gx, rfl⟩ := more_of_below (Ext.below hw'); go_simp; exact rfl))); clear hK K)); refine wpQuiet_nil ?_; intro w9 hw9; have hb9 := Ext.below hw9; clear hw9; obtain ⟨g9, rfl⟩ := more_of_below hb9; clear hb9)
  go_wp2
  go_ret
  exact ⟨rfl, by (repeat (first | with_reducible assumption | with_reducible exact Below.refl _ _ | with_reducible refine Below.drewN ?_ _ | with_reducible refine Below.drew ?_ | with_reducible refine Below.alloc ?_ (by first | omega | (simp; done) | (simp; omega)) _ | with_reducible refine Below.setCell ?_ (by first | omega | (simp; done) | (simp; omega)) _ | with_reducible refine below_more _ _ ?_ (by first | omega | (simp; done) | (simp; omega))))⟩

/-- RotationDivides returns true, whatever the elements. -/
theorem law_divides (x y : Qd) (w : World) :
    Calls Try.prog 3 #[.agg #[.int .i64 x.w, .int .i64 x.x, .int .i64 x.y, .int .i64 x.z, .int .i64 x.d], .agg #[.int .i64 y.w, .int .i64 y.x, .int .i64 y.y, .int .i64 y.z, .int .i64 y.d]] w fun e w' => e = .returned (.bool true) ∧ Below w.heap.size w w' := by
  by_cases hx : x.oerr = 0
  · by_cases hy : y.oerr = 0
    · have hz0 := oerrL_two x y
      rw [if_pos hx, hy] at hz0
      obtain ⟨hx1, hx2, hx3, hx4⟩ := Opn.of hx
      obtain ⟨hy1, hy2, hy3, hy4⟩ := Opn.of hy
      have ex := rerr_any x
      have ey := rerr_any y
      rw [hx] at ex
      rw [hy] at ey
      cases hz : y.rdv.eqb ⟨0, 0, 0, 0⟩
      · have h0 := nrm_pos_of hz
        have F := Qt.divF hx3 hy3 (by omega) (by omega) h0
        have cz := rzero_any y.rdv
        rw [hz] at cz
        have hq := Qt.hz_quo x.rdv y.rdv
        have hr := Qt.hz_dr hx3 hy3
        have ht := rtimes_in y.rdv (x.rdv.quo y.rdv) F.mulI
        rw [Qt.hm_eq] at ht
        have bX := Qt.bd_of_nrm (a := x.rdv) (B := 2000) (by omega) (by omega)
        have bR := F.drB
        have bP := F.hmB
        have hback := Qt.dr_back hx3 hy3
        have hlt : (x.rdv.dr y.rdv).nrm / 4 < y.rdv.nrm / 4 := by
          have := F.drN; have := Qt.hz_nrm hr; have := Qt.hz_nrm hy3; omega
        have cr := rdivide_hz x.rdv y.rdv hx3 hy3 (by omega) (by omega) h0
        have q1 := rquat_hz _ (Qt.bd_InR (by omega) F.quoB) hq
        have q2 := rquat_hz _ (Qt.bd_InR (by omega) F.drB) hr
        have n1 := rnorm_in (x.rdv.dr y.rdv) (by have := F.drN; omega)
        have n2 := rnorm_in y.rdv (by omega)
        have hD := divide_opn x y hx hy hz
        generalize Qt.hm y.rdv (x.rdv.quo y.rdv) = P at *
        generalize x.rdv.dr y.rdv = R at *
        generalize x.rdv.quo y.rdv = A at *
        obtain ⟨⟨_, _⟩, ⟨_, _⟩, ⟨_, _⟩, ⟨_, _⟩⟩ := bX
        obtain ⟨⟨_, _⟩, ⟨_, _⟩, ⟨_, _⟩, ⟨_, _⟩⟩ := bR
        obtain ⟨⟨_, _⟩, ⟨_, _⟩, ⟨_, _⟩, ⟨_, _⟩⟩ := bP
        have m1 := rminus_in ⟨0, 0, 0, 0⟩ P (by unfold Qt.InR Qt.sub; refine ⟨?_, ?_, ?_, ?_⟩ <;> (simp only; omega))
        have m2 := rminus_in ((⟨0, 0, 0, 0⟩ : Qt).sub P) R (by unfold Qt.InR Qt.sub; refine ⟨?_, ?_, ?_, ?_⟩ <;> (simp only; omega))
        have m3 := rminus_in ⟨0, 0, 0, 0⟩ (((⟨0, 0, 0, 0⟩ : Qt).sub P).sub R) (by unfold Qt.InR Qt.sub; refine ⟨?_, ?_, ?_, ?_⟩ <;> (simp only; omega))
        rw [hback] at m3
        exact divides_ok x y x.rdv y.rdv A R P _ _ _ _ hlt hD (rof_ok x hx1 hx2) (rof_ok y hy1 hy2) ex ey cz cr q1 q2 n1 n2 ht m1 m2 m3 w
      · have cz := rzero_any y.rdv
        rw [hz] at cz
        exact divides_zero x y _ _ _ _ (fun w => divide_zero x y w hz0 hz) (rof_ok x hx1 hx2) (rof_ok y hy1 hy2) ex ey cz w
    · have hz0 := oerrL_two x y
      rw [if_pos hx] at hz0
      have hd := fun w => divide_err x y w (by rw [hz0]; exact hy)
      rw [hz0] at hd
      exact divides_err x y _ hy _ _ _ _ hd (rof_any x) (rof_any y) _ _ (rerr_any x) (rerr_any y) (.inr ⟨hx, rfl⟩) w
  · have hz0 := oerrL_two x y
    rw [if_neg hx] at hz0
    have hd := fun w => divide_err x y w (by rw [hz0]; exact hx)
    rw [hz0] at hd
    exact divides_err x y _ hx _ _ _ _ hd (rof_any x) (rof_any y) _ _ (rerr_any x) (rerr_any y) (.inl ⟨hx, rfl⟩) w
end Go.Proofs.Ythajaabgcbjfkaa
