/- The law RotationExchanges: the walk. Printed by genz5.py. -/
import Derived.Test.YthajaabgcbjfkaaB6
import Derived.Test.YthajaabgcbjfkaaW1
namespace Go.Proofs.Ythajaabgcbjfkaa
open Go.RowKit

set_option maxHeartbeats 400000 in
theorem lzero_zero (w : World) :
    Calls Try.prog 30 #[.agg #[.int .i64 0, .int .i64 0, .int .i64 0, .int .i64 0, .int .i64 0]] w fun e w' => e = .returned (.bool true) ∧ Below w.heap.size w w' := by
  go_enter Try.func30, Try.ntmps30
  go_wp2
  go_ret
  exact ⟨rfl, by (repeat (first | with_reducible assumption | with_reducible exact Below.refl _ _ | with_reducible refine Below.drewN ?_ _ | with_reducible refine Below.drew ?_ | with_reducible refine Below.alloc ?_ (by first | omega | (simp; done) | (simp; omega)) _ | with_reducible refine Below.setCell ?_ (by first | omega | (simp; done) | (simp; omega)) _ | with_reducible refine below_more _ _ ?_ (by first | omega | (simp; done) | (simp; omega))))⟩

set_option maxRecDepth 100000 in
set_option maxHeartbeats 4000000 in
theorem exchs_err (x y : Qd) (X Y : Qt) (bx by_ : Bool) (d : Int) (hd : d ≠ 0) (he : ∀ w, Calls Try.prog 37 #[.agg #[.int .i64 x.w, .int .i64 x.x, .int .i64 x.y, .int .i64 x.z, .int .i64 x.d], .agg #[.int .i64 y.w, .int .i64 y.x, .int .i64 y.y, .int .i64 y.z, .int .i64 y.d]] w fun e w' => e = .returned (.tuple #[.agg #[.int .i64 0, .int .i64 0, .int .i64 0, .int .i64 0, .int .i64 0], .agg #[.int .i64 0, .int .i64 0, .int .i64 0, .int .i64 0, .int .i64 0], .int .i64 d]) ∧ Below w.heap.size w w')
    (a b : Int)
    (ea : ∀ w, Calls Try.prog 16 #[.agg #[.int .i64 x.w, .int .i64 x.x, .int .i64 x.y, .int .i64 x.z, .int .i64 x.d]] w fun e w' => e = .returned (.int .i64 a) ∧ Below w.heap.size w w')
    (eb : ∀ w, Calls Try.prog 16 #[.agg #[.int .i64 y.w, .int .i64 y.x, .int .i64 y.y, .int .i64 y.z, .int .i64 y.d]] w fun e w' => e = .returned (.int .i64 b) ∧ Below w.heap.size w w')
    (ox : ∀ w, Calls Try.prog 17 #[.agg #[.int .i64 x.w, .int .i64 x.x, .int .i64 x.y, .int .i64 x.z, .int .i64 x.d]] w fun e w' => e = .returned (.tuple #[.agg #[.int .i64 X.w, .int .i64 X.x, .int .i64 X.y, .int .i64 X.z], .bool bx]) ∧ Below w.heap.size w w')
    (oy : ∀ w, Calls Try.prog 17 #[.agg #[.int .i64 y.w, .int .i64 y.x, .int .i64 y.y, .int .i64 y.z, .int .i64 y.d]] w fun e w' => e = .returned (.tuple #[.agg #[.int .i64 Y.w, .int .i64 Y.x, .int .i64 Y.y, .int .i64 Y.z], .bool by_]) ∧ Below w.heap.size w w')
    (hab : (a ≠ 0 ∧ d = a) ∨ (a = 0 ∧ d = b)) (w : World) :
    Calls Try.prog 7 #[.agg #[.int .i64 x.w, .int .i64 x.x, .int .i64 x.y, .int .i64 x.z, .int .i64 x.d], .agg #[.int .i64 y.w, .int .i64 y.x, .int .i64 y.y, .int .i64 y.z, .int .i64 y.d]] w fun e w' => e = .returned (.bool true) ∧ Below w.heap.size w w' := by
  have HE := Lib.hid he; have EA := Lib.hid ea; have EB := Lib.hid eb; have OX := Lib.hid ox; have OY := Lib.hid oy
  clear he ea eb ox oy
  have hd1 : (d == 0) = false := by simpa using hd
  have hd2 : (d != 0) = true := by simpa using hd
  rcases hab with ⟨ha, rfl⟩ | ⟨rfl, rfl⟩
  all_goals
    clear hd
    go_enter Try.func7, Try.ntmps7
    go_wp2_with (first | (go_at_call 14; with_reducible refine (awake_any _).mono ?_; rintro e w1 ⟨rfl, hb1⟩; obtain ⟨g1, rfl⟩ := more_of_below hb1; clear hb1) | (go_at_call 37; with_reducible refine (HE.out _).mono ?_; rintro e w2 ⟨rfl, hb2⟩; obtain ⟨g2, rfl⟩ := more_of_below hb2; clear hb2) | (go_at_call 16; first | ((with_reducible refine (EA.out _).mono ?_); rintro e w3 ⟨rfl, hb3⟩; obtain ⟨g3, rfl⟩ := more_of_below hb3; clear hb3) | ((with_reducible refine (EB.out _).mono ?_); rintro e w4 ⟨rfl, hb4⟩; obtain ⟨g4, rfl⟩ := more_of_below hb4; clear hb4)) | (go_at_call 17; first | ((with_reducible refine (OX.out _).mono ?_); rintro e w5 ⟨rfl, hb5⟩; obtain ⟨g5, rfl⟩ := more_of_below hb5; clear hb5) | ((with_reducible refine (OY.out _).mono ?_); rintro e w6 ⟨rfl, hb6⟩; obtain ⟨g6, rfl⟩ := more_of_below hb6; clear hb6)) | (go_at_call 30; with_reducible refine (lzero_zero _).mono ?_; rintro e w7 ⟨rfl, hb7⟩; obtain ⟨g7, rfl⟩ := more_of_below hb7; clear hb7))
    go_ret
    exact ⟨rfl, by (repeat (first | with_reducible assumption | with_reducible exact Below.refl _ _ | with_reducible refine Below.drewN ?_ _ | with_reducible refine Below.drew ?_ | with_reducible refine Below.alloc ?_ (by first | omega | (simp; done) | (simp; omega)) _ | with_reducible refine Below.setCell ?_ (by first | omega | (simp; done) | (simp; omega)) _ | with_reducible refine below_more _ _ ?_ (by first | omega | (simp; done) | (simp; omega))))⟩
set_option maxRecDepth 100000 in
set_option maxHeartbeats 4000000 in
theorem exchs_zero (x y : Qd) (X Y : Qt) (bx by_ : Bool) (hz : bx = true ∨ (bx = false ∧ by_ = true)) (he : ∀ w, Calls Try.prog 37 #[.agg #[.int .i64 x.w, .int .i64 x.x, .int .i64 x.y, .int .i64 x.z, .int .i64 x.d], .agg #[.int .i64 y.w, .int .i64 y.x, .int .i64 y.y, .int .i64 y.z, .int .i64 y.d]] w fun e w' => e = .returned (.tuple #[.agg #[.int .i64 0, .int .i64 0, .int .i64 0, .int .i64 0, .int .i64 0], .agg #[.int .i64 0, .int .i64 0, .int .i64 0, .int .i64 0, .int .i64 0], .int .i64 10]) ∧ Below w.heap.size w w')
    (ea : ∀ w, Calls Try.prog 16 #[.agg #[.int .i64 x.w, .int .i64 x.x, .int .i64 x.y, .int .i64 x.z, .int .i64 x.d]] w fun e w' => e = .returned (.int .i64 0) ∧ Below w.heap.size w w')
    (eb : ∀ w, Calls Try.prog 16 #[.agg #[.int .i64 y.w, .int .i64 y.x, .int .i64 y.y, .int .i64 y.z, .int .i64 y.d]] w fun e w' => e = .returned (.int .i64 0) ∧ Below w.heap.size w w')
    (ox : ∀ w, Calls Try.prog 17 #[.agg #[.int .i64 x.w, .int .i64 x.x, .int .i64 x.y, .int .i64 x.z, .int .i64 x.d]] w fun e w' => e = .returned (.tuple #[.agg #[.int .i64 X.w, .int .i64 X.x, .int .i64 X.y, .int .i64 X.z], .bool true]) ∧ Below w.heap.size w w')
    (oy : ∀ w, Calls Try.prog 17 #[.agg #[.int .i64 y.w, .int .i64 y.x, .int .i64 y.y, .int .i64 y.z, .int .i64 y.d]] w fun e w' => e = .returned (.tuple #[.agg #[.int .i64 Y.w, .int .i64 Y.x, .int .i64 Y.y, .int .i64 Y.z], .bool true]) ∧ Below w.heap.size w w')
    (zx : ∀ w, Calls Try.prog 18 #[.agg #[.int .i64 X.w, .int .i64 X.x, .int .i64 X.y, .int .i64 X.z]] w fun e w' => e = .returned (.bool bx) ∧ Below w.heap.size w w')
    (zy : ∀ w, Calls Try.prog 18 #[.agg #[.int .i64 Y.w, .int .i64 Y.x, .int .i64 Y.y, .int .i64 Y.z]] w fun e w' => e = .returned (.bool by_) ∧ Below w.heap.size w w') (w : World) :
    Calls Try.prog 7 #[.agg #[.int .i64 x.w, .int .i64 x.x, .int .i64 x.y, .int .i64 x.z, .int .i64 x.d], .agg #[.int .i64 y.w, .int .i64 y.x, .int .i64 y.y, .int .i64 y.z, .int .i64 y.d]] w fun e w' => e = .returned (.bool true) ∧ Below w.heap.size w w' := by
  have HE := Lib.hid he; have EA := Lib.hid ea; have EB := Lib.hid eb; have OX := Lib.hid ox; have OY := Lib.hid oy
  have ZX := Lib.hid zx; have ZY := Lib.hid zy
  clear he ea eb ox oy zx zy
  rcases hz with rfl | ⟨rfl, rfl⟩
  all_goals
    go_enter Try.func7, Try.ntmps7
    go_wp2_with (first | (go_at_call 14; with_reducible refine (awake_any _).mono ?_; rintro e w1 ⟨rfl, hb1⟩; obtain ⟨g1, rfl⟩ := more_of_below hb1; clear hb1) | (go_at_call 37; with_reducible refine (HE.out _).mono ?_; rintro e w2 ⟨rfl, hb2⟩; obtain ⟨g2, rfl⟩ := more_of_below hb2; clear hb2) | (go_at_call 16; first | ((with_reducible refine (EA.out _).mono ?_); rintro e w3 ⟨rfl, hb3⟩; obtain ⟨g3, rfl⟩ := more_of_below hb3; clear hb3) | ((with_reducible refine (EB.out _).mono ?_); rintro e w4 ⟨rfl, hb4⟩; obtain ⟨g4, rfl⟩ := more_of_below hb4; clear hb4)) | (go_at_call 17; first | ((with_reducible refine (OX.out _).mono ?_); rintro e w5 ⟨rfl, hb5⟩; obtain ⟨g5, rfl⟩ := more_of_below hb5; clear hb5) | ((with_reducible refine (OY.out _).mono ?_); rintro e w6 ⟨rfl, hb6⟩; obtain ⟨g6, rfl⟩ := more_of_below hb6; clear hb6)) | (go_at_call 30; with_reducible refine (lzero_zero _).mono ?_; rintro e w7 ⟨rfl, hb7⟩; obtain ⟨g7, rfl⟩ := more_of_below hb7; clear hb7) | (go_at_call 18; first | ((with_reducible refine (ZX.out _).mono ?_); rintro e wz1 ⟨rfl, hbz1⟩; obtain ⟨gz1, rfl⟩ := more_of_below hbz1; clear hbz1) | ((with_reducible refine (ZY.out _).mono ?_); rintro e wz2 ⟨rfl, hbz2⟩; obtain ⟨gz2, rfl⟩ := more_of_below hbz2; clear hbz2)))
    go_ret
    exact ⟨rfl, by (repeat (first | with_reducible assumption | with_reducible exact Below.refl _ _ | with_reducible refine Below.drewN ?_ _ | with_reducible refine Below.drew ?_ | with_reducible refine Below.alloc ?_ (by first | omega | (simp; done) | (simp; omega)) _ | with_reducible refine Below.setCell ?_ (by first | omega | (simp; done) | (simp; omega)) _ | with_reducible refine below_more _ _ ?_ (by first | omega | (simp; done) | (simp; omega))))⟩
set_option maxRecDepth 100000 in
set_option maxHeartbeats 4000000 in
theorem exchs_form (x y : Qd) (X Y : Qt) (n m G : Int) (hG : G ≠ 1) (he : ∀ w, Calls Try.prog 37 #[.agg #[.int .i64 x.w, .int .i64 x.x, .int .i64 x.y, .int .i64 x.z, .int .i64 x.d], .agg #[.int .i64 y.w, .int .i64 y.x, .int .i64 y.y, .int .i64 y.z, .int .i64 y.d]] w fun e w' => e = .returned (.tuple #[.agg #[.int .i64 0, .int .i64 0, .int .i64 0, .int .i64 0, .int .i64 0], .agg #[.int .i64 0, .int .i64 0, .int .i64 0, .int .i64 0, .int .i64 0], .int .i64 3]) ∧ Below w.heap.size w w')
    (ea : ∀ w, Calls Try.prog 16 #[.agg #[.int .i64 x.w, .int .i64 x.x, .int .i64 x.y, .int .i64 x.z, .int .i64 x.d]] w fun e w' => e = .returned (.int .i64 0) ∧ Below w.heap.size w w')
    (eb : ∀ w, Calls Try.prog 16 #[.agg #[.int .i64 y.w, .int .i64 y.x, .int .i64 y.y, .int .i64 y.z, .int .i64 y.d]] w fun e w' => e = .returned (.int .i64 0) ∧ Below w.heap.size w w')
    (ox : ∀ w, Calls Try.prog 17 #[.agg #[.int .i64 x.w, .int .i64 x.x, .int .i64 x.y, .int .i64 x.z, .int .i64 x.d]] w fun e w' => e = .returned (.tuple #[.agg #[.int .i64 X.w, .int .i64 X.x, .int .i64 X.y, .int .i64 X.z], .bool true]) ∧ Below w.heap.size w w')
    (oy : ∀ w, Calls Try.prog 17 #[.agg #[.int .i64 y.w, .int .i64 y.x, .int .i64 y.y, .int .i64 y.z, .int .i64 y.d]] w fun e w' => e = .returned (.tuple #[.agg #[.int .i64 Y.w, .int .i64 Y.x, .int .i64 Y.y, .int .i64 Y.z], .bool true]) ∧ Below w.heap.size w w')
    (zx : ∀ w, Calls Try.prog 18 #[.agg #[.int .i64 X.w, .int .i64 X.x, .int .i64 X.y, .int .i64 X.z]] w fun e w' => e = .returned (.bool false) ∧ Below w.heap.size w w')
    (zy : ∀ w, Calls Try.prog 18 #[.agg #[.int .i64 Y.w, .int .i64 Y.x, .int .i64 Y.y, .int .i64 Y.z]] w fun e w' => e = .returned (.bool false) ∧ Below w.heap.size w w')
    (nx : ∀ w, Calls Try.prog 21 #[.agg #[.int .i64 X.w, .int .i64 X.x, .int .i64 X.y, .int .i64 X.z]] w fun e w' => e = .returned (.int .i64 n) ∧ Below w.heap.size w w')
    (ny : ∀ w, Calls Try.prog 21 #[.agg #[.int .i64 Y.w, .int .i64 Y.x, .int .i64 Y.y, .int .i64 Y.z]] w fun e w' => e = .returned (.int .i64 m) ∧ Below w.heap.size w w')
    (cg : ∀ w, Calls Try.prog 38 #[.int .i64 n, .int .i64 m] w fun e w' => e = .returned (.int .i64 G) ∧ Below w.heap.size w w') (w : World) :
    Calls Try.prog 7 #[.agg #[.int .i64 x.w, .int .i64 x.x, .int .i64 x.y, .int .i64 x.z, .int .i64 x.d], .agg #[.int .i64 y.w, .int .i64 y.x, .int .i64 y.y, .int .i64 y.z, .int .i64 y.d]] w fun e w' => e = .returned (.bool true) ∧ Below w.heap.size w w' := by
  have HE := Lib.hid he; have EA := Lib.hid ea; have EB := Lib.hid eb; have OX := Lib.hid ox; have OY := Lib.hid oy
  have ZX := Lib.hid zx; have ZY := Lib.hid zy; have NX := Lib.hid nx; have NY := Lib.hid ny; have CG := Lib.hid cg
  clear he ea eb ox oy zx zy nx ny cg
  have eG : (G != 1) = true := by simpa using hG
  go_enter Try.func7, Try.ntmps7
  go_wp2_with (first | (go_at_call 14; with_reducible refine (awake_any _).mono ?_; rintro e w1 ⟨rfl, hb1⟩; obtain ⟨g1, rfl⟩ := more_of_below hb1; clear hb1) | (go_at_call 37; with_reducible refine (HE.out _).mono ?_; rintro e w2 ⟨rfl, hb2⟩; obtain ⟨g2, rfl⟩ := more_of_below hb2; clear hb2) | (go_at_call 16; first | ((with_reducible refine (EA.out _).mono ?_); rintro e w3 ⟨rfl, hb3⟩; obtain ⟨g3, rfl⟩ := more_of_below hb3; clear hb3) | ((with_reducible refine (EB.out _).mono ?_); rintro e w4 ⟨rfl, hb4⟩; obtain ⟨g4, rfl⟩ := more_of_below hb4; clear hb4)) | (go_at_call 17; first | ((with_reducible refine (OX.out _).mono ?_); rintro e w5 ⟨rfl, hb5⟩; obtain ⟨g5, rfl⟩ := more_of_below hb5; clear hb5) | ((with_reducible refine (OY.out _).mono ?_); rintro e w6 ⟨rfl, hb6⟩; obtain ⟨g6, rfl⟩ := more_of_below hb6; clear hb6)) | (go_at_call 30; with_reducible refine (lzero_zero _).mono ?_; rintro e w7 ⟨rfl, hb7⟩; obtain ⟨g7, rfl⟩ := more_of_below hb7; clear hb7) | (go_at_call 18; first | ((with_reducible refine (ZX.out _).mono ?_); rintro e wz1 ⟨rfl, hbz1⟩; obtain ⟨gz1, rfl⟩ := more_of_below hbz1; clear hbz1) | ((with_reducible refine (ZY.out _).mono ?_); rintro e wz2 ⟨rfl, hbz2⟩; obtain ⟨gz2, rfl⟩ := more_of_below hbz2; clear hbz2)))
  (refine wp_region_calm_tail 6 (Ext _) (by kernel_rfl) (by kernel_rfl) (Ext.start _) ?_; simp only [List.take_succ_cons, List.take_zero, List.drop_succ_cons, List.drop_zero]; (repeat (refine wpQuiet_step (fun K hK => ?_); go_simp; (try go_bits); apply Exists.intro; refine ⟨fun w' hw' => ?_, hK _ ?_⟩; (focus (first | with_reducible exact rfl | (go_at_call 21; (first | with_reducible exact Ext.call hw' (NX.out _) | with_reducible exact Ext.call hw' (NY.out _))) | (go_at_call 38; (with_reducible exact Ext.call hw' (CG.out _))) | (obtain ⟨gx, rfl⟩ := more_of_below (Ext.below hw'); go_simp; exact rfl))); clear hK K)); refine wpQuiet_nil ?_; intro w8 hw8; have hb8 := Ext.below hw8; clear hw8; obtain ⟨g8, rfl⟩ := more_of_below hb8; clear hb8)
  go_wp2_with (first | (go_at_call 14; with_reducible refine (awake_any _).mono ?_; rintro e w1 ⟨rfl, hb1⟩; obtain ⟨g1, rfl⟩ := more_of_below hb1; clear hb1) | (go_at_call 37; with_reducible refine (HE.out _).mono ?_; rintro e w2 ⟨rfl, hb2⟩; obtain ⟨g2, rfl⟩ := more_of_below hb2; clear hb2) | (go_at_call 16; first | ((with_reducible refine (EA.out _).mono ?_); rintro e w3 ⟨rfl, hb3⟩; obtain ⟨g3, rfl⟩ := more_of_below hb3; clear hb3) | ((with_reducible refine (EB.out _).mono ?_); rintro e w4 ⟨rfl, hb4⟩; obtain ⟨g4, rfl⟩ := more_of_below hb4; clear hb4)) | (go_at_call 17; first | ((with_reducible refine (OX.out _).mono ?_); rintro e w5 ⟨rfl, hb5⟩; obtain ⟨g5, rfl⟩ := more_of_below hb5; clear hb5) | ((with_reducible refine (OY.out _).mono ?_); rintro e w6 ⟨rfl, hb6⟩; obtain ⟨g6, rfl⟩ := more_of_below hb6; clear hb6)) | (go_at_call 30; with_reducible refine (lzero_zero _).mono ?_; rintro e w7 ⟨rfl, hb7⟩; obtain ⟨g7, rfl⟩ := more_of_below hb7; clear hb7))
  go_ret
  exact ⟨rfl, by (repeat (first | with_reducible assumption | with_reducible exact Below.refl _ _ | with_reducible refine Below.drewN ?_ _ | with_reducible refine Below.drew ?_ | with_reducible refine Below.alloc ?_ (by first | omega | (simp; done) | (simp; omega)) _ | with_reducible refine Below.setCell ?_ (by first | omega | (simp; done) | (simp; omega)) _ | with_reducible refine below_more _ _ ?_ (by first | omega | (simp; done) | (simp; omega))))⟩
set_option maxRecDepth 100000 in
set_option maxHeartbeats 4000000 in
theorem exchs_large (x y : Qd) (X Y : Qt) (n m : Int) (hn : 0 ≤ n ∧ n ≤ 1000000) (hm : 0 ≤ m ∧ m ≤ 1000000) (hl : 1000000 < n * m) (he : ∀ w, Calls Try.prog 37 #[.agg #[.int .i64 x.w, .int .i64 x.x, .int .i64 x.y, .int .i64 x.z, .int .i64 x.d], .agg #[.int .i64 y.w, .int .i64 y.x, .int .i64 y.y, .int .i64 y.z, .int .i64 y.d]] w fun e w' => e = .returned (.tuple #[.agg #[.int .i64 0, .int .i64 0, .int .i64 0, .int .i64 0, .int .i64 0], .agg #[.int .i64 0, .int .i64 0, .int .i64 0, .int .i64 0, .int .i64 0], .int .i64 8]) ∧ Below w.heap.size w w')
    (ea : ∀ w, Calls Try.prog 16 #[.agg #[.int .i64 x.w, .int .i64 x.x, .int .i64 x.y, .int .i64 x.z, .int .i64 x.d]] w fun e w' => e = .returned (.int .i64 0) ∧ Below w.heap.size w w')
    (eb : ∀ w, Calls Try.prog 16 #[.agg #[.int .i64 y.w, .int .i64 y.x, .int .i64 y.y, .int .i64 y.z, .int .i64 y.d]] w fun e w' => e = .returned (.int .i64 0) ∧ Below w.heap.size w w')
    (ox : ∀ w, Calls Try.prog 17 #[.agg #[.int .i64 x.w, .int .i64 x.x, .int .i64 x.y, .int .i64 x.z, .int .i64 x.d]] w fun e w' => e = .returned (.tuple #[.agg #[.int .i64 X.w, .int .i64 X.x, .int .i64 X.y, .int .i64 X.z], .bool true]) ∧ Below w.heap.size w w')
    (oy : ∀ w, Calls Try.prog 17 #[.agg #[.int .i64 y.w, .int .i64 y.x, .int .i64 y.y, .int .i64 y.z, .int .i64 y.d]] w fun e w' => e = .returned (.tuple #[.agg #[.int .i64 Y.w, .int .i64 Y.x, .int .i64 Y.y, .int .i64 Y.z], .bool true]) ∧ Below w.heap.size w w')
    (zx : ∀ w, Calls Try.prog 18 #[.agg #[.int .i64 X.w, .int .i64 X.x, .int .i64 X.y, .int .i64 X.z]] w fun e w' => e = .returned (.bool false) ∧ Below w.heap.size w w')
    (zy : ∀ w, Calls Try.prog 18 #[.agg #[.int .i64 Y.w, .int .i64 Y.x, .int .i64 Y.y, .int .i64 Y.z]] w fun e w' => e = .returned (.bool false) ∧ Below w.heap.size w w')
    (nx : ∀ w, Calls Try.prog 21 #[.agg #[.int .i64 X.w, .int .i64 X.x, .int .i64 X.y, .int .i64 X.z]] w fun e w' => e = .returned (.int .i64 n) ∧ Below w.heap.size w w')
    (ny : ∀ w, Calls Try.prog 21 #[.agg #[.int .i64 Y.w, .int .i64 Y.x, .int .i64 Y.y, .int .i64 Y.z]] w fun e w' => e = .returned (.int .i64 m) ∧ Below w.heap.size w w')
    (cg : ∀ w, Calls Try.prog 38 #[.int .i64 n, .int .i64 m] w fun e w' => e = .returned (.int .i64 1) ∧ Below w.heap.size w w') (w : World) :
    Calls Try.prog 7 #[.agg #[.int .i64 x.w, .int .i64 x.x, .int .i64 x.y, .int .i64 x.z, .int .i64 x.d], .agg #[.int .i64 y.w, .int .i64 y.x, .int .i64 y.y, .int .i64 y.z, .int .i64 y.d]] w fun e w' => e = .returned (.bool true) ∧ Below w.heap.size w w' := by
  have HE := Lib.hid he; have EA := Lib.hid ea; have EB := Lib.hid eb; have OX := Lib.hid ox; have OY := Lib.hid oy
  have ZX := Lib.hid zx; have ZY := Lib.hid zy; have NX := Lib.hid nx; have NY := Lib.hid ny; have CG := Lib.hid cg
  have p1 : n * m ≤ 1000000 * 1000000 := Int.mul_le_mul hn.2 hm.2 hm.1 (by omega)
  clear he ea eb ox oy zx zy nx ny cg hn hm
  go_enter Try.func7, Try.ntmps7
  go_wp2_with (first | (go_at_call 14; with_reducible refine (awake_any _).mono ?_; rintro e w1 ⟨rfl, hb1⟩; obtain ⟨g1, rfl⟩ := more_of_below hb1; clear hb1) | (go_at_call 37; with_reducible refine (HE.out _).mono ?_; rintro e w2 ⟨rfl, hb2⟩; obtain ⟨g2, rfl⟩ := more_of_below hb2; clear hb2) | (go_at_call 16; first | ((with_reducible refine (EA.out _).mono ?_); rintro e w3 ⟨rfl, hb3⟩; obtain ⟨g3, rfl⟩ := more_of_below hb3; clear hb3) | ((with_reducible refine (EB.out _).mono ?_); rintro e w4 ⟨rfl, hb4⟩; obtain ⟨g4, rfl⟩ := more_of_below hb4; clear hb4)) | (go_at_call 17; first | ((with_reducible refine (OX.out _).mono ?_); rintro e w5 ⟨rfl, hb5⟩; obtain ⟨g5, rfl⟩ := more_of_below hb5; clear hb5) | ((with_reducible refine (OY.out _).mono ?_); rintro e w6 ⟨rfl, hb6⟩; obtain ⟨g6, rfl⟩ := more_of_below hb6; clear hb6)) | (go_at_call 30; with_reducible refine (lzero_zero _).mono ?_; rintro e w7 ⟨rfl, hb7⟩; obtain ⟨g7, rfl⟩ := more_of_below hb7; clear hb7) | (go_at_call 18; first | ((with_reducible refine (ZX.out _).mono ?_); rintro e wz1 ⟨rfl, hbz1⟩; obtain ⟨gz1, rfl⟩ := more_of_below hbz1; clear hbz1) | ((with_reducible refine (ZY.out _).mono ?_); rintro e wz2 ⟨rfl, hbz2⟩; obtain ⟨gz2, rfl⟩ := more_of_below hbz2; clear hbz2)))
  (refine wp_region_calm_tail 6 (Ext _) (by kernel_rfl) (by kernel_rfl) (Ext.start _) ?_; simp only [List.take_succ_cons, List.take_zero, List.drop_succ_cons, List.drop_zero]; (repeat (refine wpQuiet_step (fun K hK => ?_); go_simp; (try go_bits); apply Exists.intro; refine ⟨fun w' hw' => ?_, hK _ ?_⟩; (focus (first | with_reducible exact rfl | (go_at_call 21; (first | with_reducible exact Ext.call hw' (NX.out _) | with_reducible exact Ext.call hw' (NY.out _))) | (go_at_call 38; (with_reducible exact Ext.call hw' (CG.out _))) | (obtain ⟨gx, rfl⟩ := more_of_below (Ext.below hw'); go_simp; exact rfl))); clear hK K)); refine wpQuiet_nil ?_; intro w8 hw8; have hb8 := Ext.below hw8; clear hw8; obtain ⟨g8, rfl⟩ := more_of_below hb8; clear hb8)
  go_wp2_with fail
  (refine wp_region_calm_tail 6 (Ext _) (by kernel_rfl) (by kernel_rfl) (Ext.start _) ?_; simp only [List.take_succ_cons, List.take_zero, List.drop_succ_cons, List.drop_zero]; (repeat (refine wpQuiet_step (fun K hK => ?_); go_simp; (try go_bits); apply Exists.intro; refine ⟨fun w' hw' => ?_, hK _ ?_⟩; (focus (first | with_reducible exact rfl | (go_at_call 21; (first | with_reducible exact Ext.call hw' (NX.out _) | with_reducible exact Ext.call hw' (NY.out _))) | (obtain ⟨gx, rfl⟩ := more_of_below (Ext.below hw'); go_simp; exact rfl))); clear hK K)); refine wpQuiet_nil ?_; intro w9 hw9; have hb9 := Ext.below hw9; clear hw9; obtain ⟨g9, rfl⟩ := more_of_below hb9; clear hb9)
  go_wp2_with (first | (go_at_call 14; with_reducible refine (awake_any _).mono ?_; rintro e w1 ⟨rfl, hb1⟩; obtain ⟨g1, rfl⟩ := more_of_below hb1; clear hb1) | (go_at_call 37; with_reducible refine (HE.out _).mono ?_; rintro e w2 ⟨rfl, hb2⟩; obtain ⟨g2, rfl⟩ := more_of_below hb2; clear hb2) | (go_at_call 16; first | ((with_reducible refine (EA.out _).mono ?_); rintro e w3 ⟨rfl, hb3⟩; obtain ⟨g3, rfl⟩ := more_of_below hb3; clear hb3) | ((with_reducible refine (EB.out _).mono ?_); rintro e w4 ⟨rfl, hb4⟩; obtain ⟨g4, rfl⟩ := more_of_below hb4; clear hb4)) | (go_at_call 17; first | ((with_reducible refine (OX.out _).mono ?_); rintro e w5 ⟨rfl, hb5⟩; obtain ⟨g5, rfl⟩ := more_of_below hb5; clear hb5) | ((with_reducible refine (OY.out _).mono ?_); rintro e w6 ⟨rfl, hb6⟩; obtain ⟨g6, rfl⟩ := more_of_below hb6; clear hb6)) | (go_at_call 30; with_reducible refine (lzero_zero _).mono ?_; rintro e w7 ⟨rfl, hb7⟩; obtain ⟨g7, rfl⟩ := more_of_below hb7; clear hb7))
  go_ret
  exact ⟨rfl, by (repeat (first | with_reducible assumption | with_reducible exact Below.refl _ _ | with_reducible refine Below.drewN ?_ _ | with_reducible refine Below.drew ?_ | with_reducible refine Below.alloc ?_ (by first | omega | (simp; done) | (simp; omega)) _ | with_reducible refine Below.setCell ?_ (by first | omega | (simp; done) | (simp; omega)) _ | with_reducible refine below_more _ _ ?_ (by first | omega | (simp; done) | (simp; omega))))⟩
set_option maxRecDepth 100000 in
set_option maxHeartbeats 4000000 in
theorem exchs_ok (x y : Qd) (X Y S T Z : Qt) (n m : Int) (hn : 0 ≤ n ∧ n ≤ 1000000) (hm : 0 ≤ m ∧ m ≤ 1000000) (hl : ¬ 1000000 < n * m) (he : ∀ w, Calls Try.prog 37 #[.agg #[.int .i64 x.w, .int .i64 x.x, .int .i64 x.y, .int .i64 x.z, .int .i64 x.d], .agg #[.int .i64 y.w, .int .i64 y.x, .int .i64 y.y, .int .i64 y.z, .int .i64 y.d]] w fun e w' => e = .returned (.tuple #[.agg #[.int .i64 S.toQ.w, .int .i64 S.toQ.x, .int .i64 S.toQ.y, .int .i64 S.toQ.z, .int .i64 S.toQ.d], .agg #[.int .i64 T.toQ.w, .int .i64 T.toQ.x, .int .i64 T.toQ.y, .int .i64 T.toQ.z, .int .i64 T.toQ.d], .int .i64 0]) ∧ Below w.heap.size w w')
    (ea : ∀ w, Calls Try.prog 16 #[.agg #[.int .i64 x.w, .int .i64 x.x, .int .i64 x.y, .int .i64 x.z, .int .i64 x.d]] w fun e w' => e = .returned (.int .i64 0) ∧ Below w.heap.size w w')
    (eb : ∀ w, Calls Try.prog 16 #[.agg #[.int .i64 y.w, .int .i64 y.x, .int .i64 y.y, .int .i64 y.z, .int .i64 y.d]] w fun e w' => e = .returned (.int .i64 0) ∧ Below w.heap.size w w')
    (ox : ∀ w, Calls Try.prog 17 #[.agg #[.int .i64 x.w, .int .i64 x.x, .int .i64 x.y, .int .i64 x.z, .int .i64 x.d]] w fun e w' => e = .returned (.tuple #[.agg #[.int .i64 X.w, .int .i64 X.x, .int .i64 X.y, .int .i64 X.z], .bool true]) ∧ Below w.heap.size w w')
    (oy : ∀ w, Calls Try.prog 17 #[.agg #[.int .i64 y.w, .int .i64 y.x, .int .i64 y.y, .int .i64 y.z, .int .i64 y.d]] w fun e w' => e = .returned (.tuple #[.agg #[.int .i64 Y.w, .int .i64 Y.x, .int .i64 Y.y, .int .i64 Y.z], .bool true]) ∧ Below w.heap.size w w')
    (zx : ∀ w, Calls Try.prog 18 #[.agg #[.int .i64 X.w, .int .i64 X.x, .int .i64 X.y, .int .i64 X.z]] w fun e w' => e = .returned (.bool false) ∧ Below w.heap.size w w')
    (zy : ∀ w, Calls Try.prog 18 #[.agg #[.int .i64 Y.w, .int .i64 Y.x, .int .i64 Y.y, .int .i64 Y.z]] w fun e w' => e = .returned (.bool false) ∧ Below w.heap.size w w')
    (nx : ∀ w, Calls Try.prog 21 #[.agg #[.int .i64 X.w, .int .i64 X.x, .int .i64 X.y, .int .i64 X.z]] w fun e w' => e = .returned (.int .i64 n) ∧ Below w.heap.size w w')
    (ny : ∀ w, Calls Try.prog 21 #[.agg #[.int .i64 Y.w, .int .i64 Y.x, .int .i64 Y.y, .int .i64 Y.z]] w fun e w' => e = .returned (.int .i64 m) ∧ Below w.heap.size w w')
    (cg : ∀ w, Calls Try.prog 38 #[.int .i64 n, .int .i64 m] w fun e w' => e = .returned (.int .i64 1) ∧ Below w.heap.size w w')
    (cx : ∀ w, Calls Try.prog 39 #[.agg #[.int .i64 X.w, .int .i64 X.x, .int .i64 X.y, .int .i64 X.z], .agg #[.int .i64 Y.w, .int .i64 Y.x, .int .i64 Y.y, .int .i64 Y.z]] w fun e w' => e = .returned (.tuple #[.agg #[.int .i64 S.w, .int .i64 S.x, .int .i64 S.y, .int .i64 S.z], .agg #[.int .i64 T.w, .int .i64 T.x, .int .i64 T.y, .int .i64 T.z]]) ∧ Below w.heap.size w w')
    (qs : ∀ w, Calls Try.prog 20 #[.agg #[.int .i64 S.w, .int .i64 S.x, .int .i64 S.y, .int .i64 S.z]] w fun e w' => e = .returned (.agg #[.int .i64 S.toQ.w, .int .i64 S.toQ.x, .int .i64 S.toQ.y, .int .i64 S.toQ.z, .int .i64 S.toQ.d]) ∧ Below w.heap.size w w')
    (qt : ∀ w, Calls Try.prog 20 #[.agg #[.int .i64 T.w, .int .i64 T.x, .int .i64 T.y, .int .i64 T.z]] w fun e w' => e = .returned (.agg #[.int .i64 T.toQ.w, .int .i64 T.toQ.x, .int .i64 T.toQ.y, .int .i64 T.toQ.z, .int .i64 T.toQ.d]) ∧ Below w.heap.size w w')
    (ns : ∀ w, Calls Try.prog 21 #[.agg #[.int .i64 S.w, .int .i64 S.x, .int .i64 S.y, .int .i64 S.z]] w fun e w' => e = .returned (.int .i64 m) ∧ Below w.heap.size w w')
    (nt : ∀ w, Calls Try.prog 21 #[.agg #[.int .i64 T.w, .int .i64 T.x, .int .i64 T.y, .int .i64 T.z]] w fun e w' => e = .returned (.int .i64 n) ∧ Below w.heap.size w w')
    (t1 : ∀ w, Calls Try.prog 23 #[.agg #[.int .i64 S.w, .int .i64 S.x, .int .i64 S.y, .int .i64 S.z], .agg #[.int .i64 T.w, .int .i64 T.x, .int .i64 T.y, .int .i64 T.z]] w fun e w' => e = .returned (.agg #[.int .i64 Z.w, .int .i64 Z.x, .int .i64 Z.y, .int .i64 Z.z]) ∧ Below w.heap.size w w')
    (t2 : ∀ w, Calls Try.prog 23 #[.agg #[.int .i64 X.w, .int .i64 X.x, .int .i64 X.y, .int .i64 X.z], .agg #[.int .i64 Y.w, .int .i64 Y.x, .int .i64 Y.y, .int .i64 Y.z]] w fun e w' => e = .returned (.agg #[.int .i64 Z.w, .int .i64 Z.x, .int .i64 Z.y, .int .i64 Z.z]) ∧ Below w.heap.size w w') (w : World) :
    Calls Try.prog 7 #[.agg #[.int .i64 x.w, .int .i64 x.x, .int .i64 x.y, .int .i64 x.z, .int .i64 x.d], .agg #[.int .i64 y.w, .int .i64 y.x, .int .i64 y.y, .int .i64 y.z, .int .i64 y.d]] w fun e w' => e = .returned (.bool true) ∧ Below w.heap.size w w' := by
  have HE := Lib.hid he; have EA := Lib.hid ea; have EB := Lib.hid eb; have OX := Lib.hid ox; have OY := Lib.hid oy
  have ZX := Lib.hid zx; have ZY := Lib.hid zy; have NX := Lib.hid nx; have NY := Lib.hid ny; have CG := Lib.hid cg
  have CX := Lib.hid cx; have QS := Lib.hid qs; have QT := Lib.hid qt; have NS := Lib.hid ns; have NT := Lib.hid nt; have T1 := Lib.hid t1; have T2 := Lib.hid t2
  have p0 : 0 ≤ n * m := Int.mul_nonneg hn.1 hm.1
  clear he ea eb ox oy zx zy nx ny cg cx qs qt ns nt t1 t2 hn hm
  generalize S.toQ = A at *
  generalize T.toQ = B at *
  go_enter Try.func7, Try.ntmps7
  go_wp2_with (first | (go_at_call 14; with_reducible refine (awake_any _).mono ?_; rintro e w1 ⟨rfl, hb1⟩; obtain ⟨g1, rfl⟩ := more_of_below hb1; clear hb1) | (go_at_call 37; with_reducible refine (HE.out _).mono ?_; rintro e w2 ⟨rfl, hb2⟩; obtain ⟨g2, rfl⟩ := more_of_below hb2; clear hb2) | (go_at_call 16; first | ((with_reducible refine (EA.out _).mono ?_); rintro e w3 ⟨rfl, hb3⟩; obtain ⟨g3, rfl⟩ := more_of_below hb3; clear hb3) | ((with_reducible refine (EB.out _).mono ?_); rintro e w4 ⟨rfl, hb4⟩; obtain ⟨g4, rfl⟩ := more_of_below hb4; clear hb4)) | (go_at_call 17; first | ((with_reducible refine (OX.out _).mono ?_); rintro e w5 ⟨rfl, hb5⟩; obtain ⟨g5, rfl⟩ := more_of_below hb5; clear hb5) | ((with_reducible refine (OY.out _).mono ?_); rintro e w6 ⟨rfl, hb6⟩; obtain ⟨g6, rfl⟩ := more_of_below hb6; clear hb6)) | (go_at_call 30; with_reducible refine (lzero_zero _).mono ?_; rintro e w7 ⟨rfl, hb7⟩; obtain ⟨g7, rfl⟩ := more_of_below hb7; clear hb7) | (go_at_call 18; first | ((with_reducible refine (ZX.out _).mono ?_); rintro e wz1 ⟨rfl, hbz1⟩; obtain ⟨gz1, rfl⟩ := more_of_below hbz1; clear hbz1) | ((with_reducible refine (ZY.out _).mono ?_); rintro e wz2 ⟨rfl, hbz2⟩; obtain ⟨gz2, rfl⟩ := more_of_below hbz2; clear hbz2)))
  (refine wp_region_calm_tail 6 (Ext _) (by kernel_rfl) (by kernel_rfl) (Ext.start _) ?_; simp only [List.take_succ_cons, List.take_zero, List.drop_succ_cons, List.drop_zero]; (repeat (refine wpQuiet_step (fun K hK => ?_); go_simp; (try go_bits); apply Exists.intro; refine ⟨fun w' hw' => ?_, hK _ ?_⟩; (focus (first | with_reducible exact rfl | (go_at_call 21; (first | with_reducible exact Ext.call hw' (NX.out _) | with_reducible exact Ext.call hw' (NY.out _))) | (go_at_call 38; (with_reducible exact Ext.call hw' (CG.out _))) | (obtain ⟨gx, rfl⟩ := more_of_below (Ext.below hw'); go_simp; exact rfl))); clear hK K)); refine wpQuiet_nil ?_; intro w8 hw8; have hb8 := Ext.below hw8; clear hw8; obtain ⟨g8, rfl⟩ := more_of_below hb8; clear hb8)
  go_wp2_with fail
  (refine wp_region_calm_tail 6 (Ext _) (by kernel_rfl) (by kernel_rfl) (Ext.start _) ?_; simp only [List.take_succ_cons, List.take_zero, List.drop_succ_cons, List.drop_zero]; (repeat (refine wpQuiet_step (fun K hK => ?_); go_simp; (try go_bits); apply Exists.intro; refine ⟨fun w' hw' => ?_, hK _ ?_⟩; (focus (first | with_reducible exact rfl | (go_at_call 21; (first | with_reducible exact Ext.call hw' (NX.out _) | with_reducible exact Ext.call hw' (NY.out _))) | (obtain ⟨gx, rfl⟩ := more_of_below (Ext.below hw'); go_simp; exact rfl))); clear hK K)); refine wpQuiet_nil ?_; intro w9 hw9; have hb9 := Ext.below hw9; clear hw9; obtain ⟨g9, rfl⟩ := more_of_below hb9; clear hb9)
  go_wp2_with (first | (go_at_call 39; with_reducible refine (CX.out _).mono ?_; rintro e w10 ⟨rfl, hb10⟩; obtain ⟨g10, rfl⟩ := more_of_below hb10; clear hb10))
  (refine wp_region_calm_tail 37 (Ext _) (by kernel_rfl) (by kernel_rfl) (Ext.start _) ?_; simp only [List.take_succ_cons, List.take_zero, List.drop_succ_cons, List.drop_zero]; (repeat (refine wpQuiet_step (fun K hK => ?_); go_simp; (try go_bits); apply Exists.intro; refine ⟨fun w' hw' => ?_, hK _ ?_⟩; (focus (first | with_reducible exact rfl | (go_at_call 20; (first | with_reducible exact Ext.call hw' (QS.out _) | with_reducible exact Ext.call hw' (QT.out _))) | (go_at_call 21; (first | with_reducible exact Ext.call hw' (NX.out _) | with_reducible exact Ext.call hw' (NY.out _) | with_reducible exact Ext.call hw' (NS.out _) | with_reducible exact Ext.call hw' (NT.out _))) | (go_at_call 23; (first | with_reducible exact Ext.call hw' (T1.out _) | with_reducible exact Ext.call hw' (T2.out _))) | (obtain ⟨gx, rfl⟩ := more_of_below (Ext.below hw'); go_simp; exact rfl))); clear hK K)); refine wpQuiet_nil ?_; intro w11 hw11; have hb11 := Ext.below hw11; clear hw11; obtain ⟨g11, rfl⟩ := more_of_below hb11; clear hb11)
  have hZZ : Qt.eqb ⟨Z.w, Z.x, Z.y, Z.z⟩ ⟨Z.w, Z.x, Z.y, Z.z⟩ = true := Qt.eqb_iff.2 rfl
  go_wp2
  go_ret
  exact ⟨congrArg (fun b => Ending.returned (Value.bool b)) hZZ, by (repeat (first | with_reducible assumption | with_reducible exact Below.refl _ _ | with_reducible refine Below.drewN ?_ _ | with_reducible refine Below.drew ?_ | with_reducible refine Below.alloc ?_ (by first | omega | (simp; done) | (simp; omega)) _ | with_reducible refine Below.setCell ?_ (by first | omega | (simp; done) | (simp; omega)) _ | with_reducible refine below_more _ _ ?_ (by first | omega | (simp; done) | (simp; omega))))⟩

theorem nrm_zero_of {q : Qt} (h : q.nrm / 4 = 0) (hz : Qt.Hz q) : q.eqb ⟨0, 0, 0, 0⟩ = true := by
  rw [← Bool.not_eq_false]; intro hc
  have := nrm_pos_of hc
  have := Qt.hz_nrm hz
  omega
theorem law_exchs (x y : Qd) (w : World) :
    Calls Try.prog 7 #[.agg #[.int .i64 x.w, .int .i64 x.x, .int .i64 x.y, .int .i64 x.z, .int .i64 x.d], .agg #[.int .i64 y.w, .int .i64 y.x, .int .i64 y.y, .int .i64 y.z, .int .i64 y.d]] w fun e w' => e = .returned (.bool true) ∧ Below w.heap.size w w' := by
  by_cases hx : x.oerr = 0
  · by_cases hy : y.oerr = 0
    · obtain ⟨hx1, hx2, hx3, hx4⟩ := Opn.of hx
      obtain ⟨hy1, hy2, hy3, hy4⟩ := Opn.of hy
      have ea := rerr_any x
      have eb := rerr_any y
      rw [hx] at ea
      rw [hy] at eb
      have ox := rof_ok x hx1 hx2
      have oy := rof_ok y hy1 hy2
      have zx := rzero_any x.rdv
      have zy := rzero_any y.rdv
      by_cases hN : x.rdv.nrm / 4 = 0
      · exact exchs_zero x y _ _ _ _ (.inl (nrm_zero_of hN hx3)) (fun w => pexch_zero x y w hx hy (.inl hN)) ea eb ox oy zx zy w
      · have n1 := x.rdv.nrm_nonneg
        have fx : x.rdv.eqb ⟨0, 0, 0, 0⟩ = false := by
          rw [← Bool.not_eq_true]; intro hc
          rw [Qt.eq_zero_of_eqb hc] at hN
          exact hN (by decide)
        by_cases hM : y.rdv.nrm / 4 = 0
        · exact exchs_zero x y _ _ _ _ (.inr ⟨fx, nrm_zero_of hM hy3⟩) (fun w => pexch_zero x y w hx hy (.inr hM)) ea eb ox oy zx zy w
        · have n2 := y.rdv.nrm_nonneg
          have fy : y.rdv.eqb ⟨0, 0, 0, 0⟩ = false := by
            rw [← Bool.not_eq_true]; intro hc
            rw [Qt.eq_zero_of_eqb hc] at hM
            exact hM (by decide)
          rw [fx] at zx
          rw [fy] at zy
          have nx := rnorm_in x.rdv (by omega)
          have ny := rnorm_in y.rdv (by omega)
          have cg := bgcd_in (x.rdv.nrm / 4) (y.rdv.nrm / 4) (by omega) (by omega)
          have hn : 0 ≤ x.rdv.nrm / 4 ∧ x.rdv.nrm / 4 ≤ 1000000 := by omega
          have hm : 0 ≤ y.rdv.nrm / 4 ∧ y.rdv.nrm / 4 ≤ 1000000 := by omega
          have hgl := gcdL_two (x.rdv.nrm / 4) (y.rdv.nrm / 4)
          have hgi : igcd (x.rdv.nrm / 4) (y.rdv.nrm / 4) = ((Int.gcd (x.rdv.nrm / 4) (y.rdv.nrm / 4) : Nat) : Int) := rfl
          by_cases hG : Int.gcd (x.rdv.nrm / 4) (y.rdv.nrm / 4) = 1
          · rw [hgi, hG] at cg
            by_cases hl : 1000000 < x.rdv.nrm / 4 * (y.rdv.nrm / 4)
            · exact exchs_large x y _ _ _ _ hn hm hl (fun w => pexch_large x y w hx hy hN hM (by rw [hgl]; exact hG) hl) ea eb ox oy zx zy nx ny cg w
            · obtain ⟨s, t, hs, ht, e2, e3, e4, c1, c2⟩ := exch_both hx3 hy3 hx4 hy4 (by omega) (by omega) (by omega) hG
              have is : s.InR := Qt.inR_of_nrm (by omega)
              have it : t.InR := Qt.inR_of_nrm (by omega)
              have ns := rnorm_in s (by omega)
              have nt := rnorm_in t (by omega)
              rw [e2] at ns
              rw [e3] at nt
              have mb := Int.mul_le_mul hx4 hy4 n2 (by omega)
              have mc := Int.mul_le_mul hy4 hx4 n1 (by omega)
              have t1 := rtimes_in s t (Qt.inR_of_nrm (by rw [Qt.nrm_mul, e2, e3]; omega))
              have t2 := rtimes_in x.rdv y.rdv (Qt.inR_of_nrm (by rw [Qt.nrm_mul]; omega))
              rw [Qt.hm_eq, e4] at t1
              rw [Qt.hm_eq] at t2
              exact exchs_ok x y _ _ s t _ _ _ hn hm hl (fun w => pexch_ok x y w hx hy hN hM (by rw [hgl]; exact hG) hl s t is it c1) ea eb ox oy zx zy nx ny cg c2 (rquat_hz s is hs) (rquat_hz t it ht) ns nt t1 t2 w
          · exact exchs_form x y _ _ _ _ _ (by rw [hgi]; omega) (fun w => pexch_form x y w hx hy hN hM (by rw [hgl]; exact hG)) ea eb ox oy zx zy nx ny cg w
    · have hz0 := oerrL_two x y
      rw [if_pos hx] at hz0
      have hd := fun w => pexch_err x y w (by rw [hz0]; exact hy)
      rw [hz0] at hd
      exact exchs_err x y _ _ _ _ _ hy hd _ _ (rerr_any x) (rerr_any y) (rof_any x) (rof_any y) (.inr ⟨hx, rfl⟩) w
  · have hz0 := oerrL_two x y
    rw [if_neg hx] at hz0
    have hd := fun w => pexch_err x y w (by rw [hz0]; exact hx)
    rw [hz0] at hd
    exact exchs_err x y _ _ _ _ _ hx hd _ _ (rerr_any x) (rerr_any y) (rof_any x) (rof_any y) (.inl ⟨hx, rfl⟩) w
end Go.Proofs.Ythajaabgcbjfkaa
