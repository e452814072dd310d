/- The law RotationUnits: the walk. -/
import Derived.Test.YthajaabgcbjfkaaB6
import Derived.Test.YthajaabgcbjfkaaW1
namespace Go.Proofs.Ythajaabgcbjfkaa
open Go.RowKit

theorem unitsE_few : unitsE.length < 1000000 := by decide
theorem unitsQ_few : (unitsE.map Qt.toQ).length < 1000000 := by rw [List.length_map]; exact unitsE_few
theorem unitsE_in : ∀ q ∈ unitsE, q.InR ∧ Qt.Hz q := fun q hq => by
  have h := unitsL_spec (u := q) (by rw [unitsL_eq]; exact hq)
  exact ⟨Qt.inR_of_nrm (by omega), h.2⟩
theorem units_rdr {w : World} {g c : Nat} (hg : g < w.heap.size) (h : ∀ k q, unitsE[k]? = some q → H4 w g k q) : RdR w (.slice (some ⟨g, 0, none⟩) 24 c) unitsE := .inr ⟨g, c, rfl, hg, h⟩
set_option maxHeartbeats 400000 in
theorem lzero_zero (w : World) :
    Calls Try.prog 30 #[.agg #[.int .i64 0, .int .i64 0, .int .i64 0, .int .i64 0, .int .i64 0]] w fun e w' => e = .returned (.bool true) ∧ Below w.heap.size w w' := by
  go_enter Try.func30, Try.ntmps30
  go_wp2
  go_ret
  exact ⟨rfl, by (repeat (first | with_reducible assumption | with_reducible exact Below.refl _ _ | with_reducible refine Below.drewN ?_ _ | with_reducible refine Below.drew ?_ | with_reducible refine Below.alloc ?_ (by first | omega | (simp; done) | (simp; omega)) _ | with_reducible refine Below.setCell ?_ (by first | omega | (simp; done) | (simp; omega)) _ | with_reducible refine below_more _ _ ?_ (by first | omega | (simp; done) | (simp; omega))))⟩

set_option maxRecDepth 100000 in
set_option maxHeartbeats 4000000 in
theorem units_err (x y : Qd) (d : Int) (hd : d ≠ 0) (he : ∀ w, Calls Try.prog 35 #[.agg #[.int .i64 x.w, .int .i64 x.x, .int .i64 x.y, .int .i64 x.z, .int .i64 x.d], .agg #[.int .i64 y.w, .int .i64 y.x, .int .i64 y.y, .int .i64 y.z, .int .i64 y.d]] w fun e w' => e = .returned (.tuple #[.agg #[.int .i64 0, .int .i64 0, .int .i64 0, .int .i64 0, .int .i64 0], .int .i64 d]) ∧ Below w.heap.size w w')
    (a b : Int) (ea : ∀ w, Calls Try.prog 16 #[.agg #[.int .i64 x.w, .int .i64 x.x, .int .i64 x.y, .int .i64 x.z, .int .i64 x.d]] w fun e w' => e = .returned (.int .i64 a) ∧ Below w.heap.size w w')
    (eb : ∀ w, Calls Try.prog 16 #[.agg #[.int .i64 y.w, .int .i64 y.x, .int .i64 y.y, .int .i64 y.z, .int .i64 y.d]] w fun e w' => e = .returned (.int .i64 b) ∧ Below w.heap.size w w')
    (hab : (a ≠ 0 ∧ d = a) ∨ (a = 0 ∧ d = b)) (w : World) :
    Calls Try.prog 6 #[.agg #[.int .i64 x.w, .int .i64 x.x, .int .i64 x.y, .int .i64 x.z, .int .i64 x.d], .agg #[.int .i64 y.w, .int .i64 y.x, .int .i64 y.y, .int .i64 y.z, .int .i64 y.d]] w fun e w' => e = .returned (.bool true) ∧ Below w.heap.size w w' := by
  have HE := Lib.hid he; have EA := Lib.hid ea; have EB := Lib.hid eb
  clear he ea eb
  have hd1 : (d == 0) = false := by simpa using hd
  have hd2 : (d != 0) = true := by simpa using hd
  rcases hab with ⟨ha, rfl⟩ | ⟨rfl, rfl⟩
  all_goals
    clear hd
    go_enter Try.func6, Try.ntmps6
    go_wp2_with (first | (go_at_call 14; with_reducible refine (awake_any _).mono ?_; rintro e w1 ⟨rfl, hb1⟩; obtain ⟨g1, rfl⟩ := more_of_below hb1; clear hb1) | (go_at_call 33; refine (punits_any _).mono ?_; rintro e wu1 ⟨v1, rfl, hu1, hbu1⟩; have HU1 := Lib.hid hu1; clear hu1; obtain ⟨gu1, rfl⟩ := more_of_below hbu1; clear hbu1) | (go_at_call 34; refine (runits_any _).mono ?_; rintro e wu2 ⟨gu, cu, rfl, _, hgu, hru, hbu2⟩; have HU2 := Lib.hid (units_rdr (c := cu) hgu hru); clear hgu hru; obtain ⟨gu2, rfl⟩ := more_of_below hbu2; clear hbu2) | (go_at_call 27; refine (rquats_any HU2.out unitsE_few unitsE_in).mono ?_; rintro e wu3 ⟨v3, rfl, hu3, hbu3⟩; have HU3 := Lib.hid hu3; clear hu3; obtain ⟨gu3, rfl⟩ := more_of_below hbu3; clear hbu3) | (go_at_call 26; refine (same_any (((HU1.out.mor gu2).mor gu3).rd) HU3.out.rd unitsQ_few unitsQ_few).mono ?_; rw [decide_eq_true rfl]; rintro e wu4 ⟨rfl, hbu4⟩; clear HU1 HU2 HU3; obtain ⟨gu4, rfl⟩ := more_of_below hbu4; clear hbu4) | (go_at_call 35; with_reducible refine (HE.out _).mono ?_; rintro e w2 ⟨rfl, hb2⟩; obtain ⟨g2, rfl⟩ := more_of_below hb2; clear hb2) | (go_at_call 16; first | ((with_reducible refine (EA.out _).mono ?_); rintro e w3 ⟨rfl, hb3⟩; obtain ⟨g3, rfl⟩ := more_of_below hb3; clear hb3) | ((with_reducible refine (EB.out _).mono ?_); rintro e w4 ⟨rfl, hb4⟩; obtain ⟨g4, rfl⟩ := more_of_below hb4; clear hb4)) | (go_at_call 30; with_reducible refine (lzero_zero _).mono ?_; rintro e w5 ⟨rfl, hb5⟩; obtain ⟨g5, rfl⟩ := more_of_below hb5; clear hb5))
    go_ret
    exact ⟨rfl, by (repeat (first | with_reducible assumption | with_reducible exact Below.refl _ _ | with_reducible refine Below.drewN ?_ _ | with_reducible refine Below.drew ?_ | with_reducible refine Below.alloc ?_ (by first | omega | (simp; done) | (simp; omega)) _ | with_reducible refine Below.setCell ?_ (by first | omega | (simp; done) | (simp; omega)) _ | with_reducible refine below_more _ _ ?_ (by first | omega | (simp; done) | (simp; omega))))⟩

set_option maxRecDepth 100000 in
set_option maxHeartbeats 4000000 in
theorem units_large (x y : Qd) (X Y : Qt) (n m : Int) (hn : 0 ≤ n ∧ n ≤ 1000000) (hm : 0 ≤ m ∧ m ≤ 1000000) (hl : 1000000 < n * m) (he : ∀ w, Calls Try.prog 35 #[.agg #[.int .i64 x.w, .int .i64 x.x, .int .i64 x.y, .int .i64 x.z, .int .i64 x.d], .agg #[.int .i64 y.w, .int .i64 y.x, .int .i64 y.y, .int .i64 y.z, .int .i64 y.d]] w fun e w' => e = .returned (.tuple #[.agg #[.int .i64 0, .int .i64 0, .int .i64 0, .int .i64 0, .int .i64 0], .int .i64 8]) ∧ Below w.heap.size w w')
    (ox : ∀ w, Calls Try.prog 17 #[.agg #[.int .i64 x.w, .int .i64 x.x, .int .i64 x.y, .int .i64 x.z, .int .i64 x.d]] w fun e w' => e = .returned (.tuple #[.agg #[.int .i64 X.w, .int .i64 X.x, .int .i64 X.y, .int .i64 X.z], .bool true]) ∧ Below w.heap.size w w')
    (oy : ∀ w, Calls Try.prog 17 #[.agg #[.int .i64 y.w, .int .i64 y.x, .int .i64 y.y, .int .i64 y.z, .int .i64 y.d]] w fun e w' => e = .returned (.tuple #[.agg #[.int .i64 Y.w, .int .i64 Y.x, .int .i64 Y.y, .int .i64 Y.z], .bool true]) ∧ Below w.heap.size w w')
    (ea : ∀ w, Calls Try.prog 16 #[.agg #[.int .i64 x.w, .int .i64 x.x, .int .i64 x.y, .int .i64 x.z, .int .i64 x.d]] w fun e w' => e = .returned (.int .i64 0) ∧ Below w.heap.size w w')
    (eb : ∀ w, Calls Try.prog 16 #[.agg #[.int .i64 y.w, .int .i64 y.x, .int .i64 y.y, .int .i64 y.z, .int .i64 y.d]] w fun e w' => e = .returned (.int .i64 0) ∧ Below w.heap.size w w')
    (nx : ∀ w, Calls Try.prog 21 #[.agg #[.int .i64 X.w, .int .i64 X.x, .int .i64 X.y, .int .i64 X.z]] w fun e w' => e = .returned (.int .i64 n) ∧ Below w.heap.size w w')
    (ny : ∀ w, Calls Try.prog 21 #[.agg #[.int .i64 Y.w, .int .i64 Y.x, .int .i64 Y.y, .int .i64 Y.z]] w fun e w' => e = .returned (.int .i64 m) ∧ Below w.heap.size w w') (w : World) :
    Calls Try.prog 6 #[.agg #[.int .i64 x.w, .int .i64 x.x, .int .i64 x.y, .int .i64 x.z, .int .i64 x.d], .agg #[.int .i64 y.w, .int .i64 y.x, .int .i64 y.y, .int .i64 y.z, .int .i64 y.d]] w fun e w' => e = .returned (.bool true) ∧ Below w.heap.size w w' := by
  have HE := Lib.hid he; have OX := Lib.hid ox; have OY := Lib.hid oy; have EA := Lib.hid ea; have EB := Lib.hid eb
  have NX := Lib.hid nx; have NY := Lib.hid ny
  have p1 : n * m ≤ 1000000 * 1000000 := Int.mul_le_mul hn.2 hm.2 hm.1 (by omega)
  clear he ox oy ea eb nx ny hn hm
  go_enter Try.func6, Try.ntmps6
  go_wp2_with (first | (go_at_call 14; with_reducible refine (awake_any _).mono ?_; rintro e w1 ⟨rfl, hb1⟩; obtain ⟨g1, rfl⟩ := more_of_below hb1; clear hb1) | (go_at_call 33; refine (punits_any _).mono ?_; rintro e wu1 ⟨v1, rfl, hu1, hbu1⟩; have HU1 := Lib.hid hu1; clear hu1; obtain ⟨gu1, rfl⟩ := more_of_below hbu1; clear hbu1) | (go_at_call 34; refine (runits_any _).mono ?_; rintro e wu2 ⟨gu, cu, rfl, _, hgu, hru, hbu2⟩; have HU2 := Lib.hid (units_rdr (c := cu) hgu hru); clear hgu hru; obtain ⟨gu2, rfl⟩ := more_of_below hbu2; clear hbu2) | (go_at_call 27; refine (rquats_any HU2.out unitsE_few unitsE_in).mono ?_; rintro e wu3 ⟨v3, rfl, hu3, hbu3⟩; have HU3 := Lib.hid hu3; clear hu3; obtain ⟨gu3, rfl⟩ := more_of_below hbu3; clear hbu3) | (go_at_call 26; refine (same_any (((HU1.out.mor gu2).mor gu3).rd) HU3.out.rd unitsQ_few unitsQ_few).mono ?_; rw [decide_eq_true rfl]; rintro e wu4 ⟨rfl, hbu4⟩; clear HU1 HU2 HU3; obtain ⟨gu4, rfl⟩ := more_of_below hbu4; clear hbu4) | (go_at_call 35; with_reducible refine (HE.out _).mono ?_; rintro e w2 ⟨rfl, hb2⟩; obtain ⟨g2, rfl⟩ := more_of_below hb2; clear hb2) | (go_at_call 16; first | ((with_reducible refine (EA.out _).mono ?_); rintro e w3 ⟨rfl, hb3⟩; obtain ⟨g3, rfl⟩ := more_of_below hb3; clear hb3) | ((with_reducible refine (EB.out _).mono ?_); rintro e w4 ⟨rfl, hb4⟩; obtain ⟨g4, rfl⟩ := more_of_below hb4; clear hb4)) | (go_at_call 30; with_reducible refine (lzero_zero _).mono ?_; rintro e w5 ⟨rfl, hb5⟩; obtain ⟨g5, rfl⟩ := more_of_below hb5; clear hb5) | (go_at_call 17; first | ((with_reducible refine (OX.out _).mono ?_); rintro e w6 ⟨rfl, hb6⟩; obtain ⟨g6, rfl⟩ := more_of_below hb6; clear hb6) | ((with_reducible refine (OY.out _).mono ?_); rintro e w7 ⟨rfl, hb7⟩; obtain ⟨g7, rfl⟩ := more_of_below hb7; clear hb7)))
  (refine wp_region_quiet (C := Ext _) (by kernel_rfl) (by kernel_rfl) (Ext.start _) ?_; simp only []; (repeat (refine wpQuiet_step (fun K hK => ?_); go_simp; (try go_bits); apply Exists.intro; refine ⟨fun w' hw' => ?_, hK _ ?_⟩; (focus (first | with_reducible exact rfl | (go_at_call 21; (first | with_reducible exact Ext.call hw' (NX.out _) | with_reducible exact Ext.call hw' (NY.out _))) | (obtain ⟨gx, rfl⟩ := more_of_below (Ext.below hw'); go_simp; exact rfl))); clear hK K)); refine wpQuiet_nil ?_; intro w8 hw8; have hb8 := Ext.below hw8; clear hw8; obtain ⟨g8, rfl⟩ := more_of_below hb8; clear hb8)
  go_wp2_with (first | (go_at_call 30; with_reducible refine (lzero_zero _).mono ?_; rintro e w9 ⟨rfl, hb9⟩; obtain ⟨g9, rfl⟩ := more_of_below hb9; clear hb9))
  go_ret
  exact ⟨rfl, by (repeat (first | with_reducible assumption | with_reducible exact Below.refl _ _ | with_reducible refine Below.drewN ?_ _ | with_reducible refine Below.drew ?_ | with_reducible refine Below.alloc ?_ (by first | omega | (simp; done) | (simp; omega)) _ | with_reducible refine Below.setCell ?_ (by first | omega | (simp; done) | (simp; omega)) _ | with_reducible refine below_more _ _ ?_ (by first | omega | (simp; done) | (simp; omega))))⟩

set_option maxRecDepth 100000 in
set_option maxHeartbeats 4000000 in
theorem units_ok (x y : Qd) (X Y G : Qt) (n m : Int) (hn : 0 ≤ n ∧ n ≤ 1000000) (hm : 0 ≤ m ∧ m ≤ 1000000) (hl : ¬ 1000000 < n * m) (he : ∀ w, Calls Try.prog 35 #[.agg #[.int .i64 x.w, .int .i64 x.x, .int .i64 x.y, .int .i64 x.z, .int .i64 x.d], .agg #[.int .i64 y.w, .int .i64 y.x, .int .i64 y.y, .int .i64 y.z, .int .i64 y.d]] w fun e w' => e = .returned (.tuple #[.agg #[.int .i64 G.toQ.w, .int .i64 G.toQ.x, .int .i64 G.toQ.y, .int .i64 G.toQ.z, .int .i64 G.toQ.d], .int .i64 0]) ∧ Below w.heap.size w w')
    (ox : ∀ w, Calls Try.prog 17 #[.agg #[.int .i64 x.w, .int .i64 x.x, .int .i64 x.y, .int .i64 x.z, .int .i64 x.d]] w fun e w' => e = .returned (.tuple #[.agg #[.int .i64 X.w, .int .i64 X.x, .int .i64 X.y, .int .i64 X.z], .bool true]) ∧ Below w.heap.size w w')
    (oy : ∀ w, Calls Try.prog 17 #[.agg #[.int .i64 y.w, .int .i64 y.x, .int .i64 y.y, .int .i64 y.z, .int .i64 y.d]] w fun e w' => e = .returned (.tuple #[.agg #[.int .i64 Y.w, .int .i64 Y.x, .int .i64 Y.y, .int .i64 Y.z], .bool true]) ∧ Below w.heap.size w w')
    (ea : ∀ w, Calls Try.prog 16 #[.agg #[.int .i64 x.w, .int .i64 x.x, .int .i64 x.y, .int .i64 x.z, .int .i64 x.d]] w fun e w' => e = .returned (.int .i64 0) ∧ Below w.heap.size w w')
    (eb : ∀ w, Calls Try.prog 16 #[.agg #[.int .i64 y.w, .int .i64 y.x, .int .i64 y.y, .int .i64 y.z, .int .i64 y.d]] w fun e w' => e = .returned (.int .i64 0) ∧ Below w.heap.size w w')
    (nx : ∀ w, Calls Try.prog 21 #[.agg #[.int .i64 X.w, .int .i64 X.x, .int .i64 X.y, .int .i64 X.z]] w fun e w' => e = .returned (.int .i64 n) ∧ Below w.heap.size w w')
    (ny : ∀ w, Calls Try.prog 21 #[.agg #[.int .i64 Y.w, .int .i64 Y.x, .int .i64 Y.y, .int .i64 Y.z]] w fun e w' => e = .returned (.int .i64 m) ∧ Below w.heap.size w w')
    (ct : ∀ w, Calls Try.prog 23 #[.agg #[.int .i64 X.w, .int .i64 X.x, .int .i64 X.y, .int .i64 X.z], .agg #[.int .i64 Y.w, .int .i64 Y.x, .int .i64 Y.y, .int .i64 Y.z]] w fun e w' => e = .returned (.agg #[.int .i64 G.w, .int .i64 G.x, .int .i64 G.y, .int .i64 G.z]) ∧ Below w.heap.size w w')
    (cq : ∀ w, Calls Try.prog 20 #[.agg #[.int .i64 G.w, .int .i64 G.x, .int .i64 G.y, .int .i64 G.z]] w fun e w' => e = .returned (.agg #[.int .i64 G.toQ.w, .int .i64 G.toQ.x, .int .i64 G.toQ.y, .int .i64 G.toQ.z, .int .i64 G.toQ.d]) ∧ Below w.heap.size w w')
    (cn : ∀ w, Calls Try.prog 36 #[.agg #[.int .i64 G.toQ.w, .int .i64 G.toQ.x, .int .i64 G.toQ.y, .int .i64 G.toQ.z, .int .i64 G.toQ.d]] w fun e w' => e = .returned (.tuple #[.int .i64 (n * m), .int .i64 0]) ∧ Below w.heap.size w w') (w : World) :
    Calls Try.prog 6 #[.agg #[.int .i64 x.w, .int .i64 x.x, .int .i64 x.y, .int .i64 x.z, .int .i64 x.d], .agg #[.int .i64 y.w, .int .i64 y.x, .int .i64 y.y, .int .i64 y.z, .int .i64 y.d]] w fun e w' => e = .returned (.bool true) ∧ Below w.heap.size w w' := by
  have HE := Lib.hid he; have OX := Lib.hid ox; have OY := Lib.hid oy; have EA := Lib.hid ea; have EB := Lib.hid eb
  have NX := Lib.hid nx; have NY := Lib.hid ny; have CT := Lib.hid ct; have CQ := Lib.hid cq; have CN := Lib.hid cn
  have p0 : 0 ≤ n * m := Int.mul_nonneg hn.1 hm.1
  clear he ox oy ea eb nx ny ct cq cn hn hm
  generalize G.toQ = Q at *
  go_enter Try.func6, Try.ntmps6
  go_wp2_with (first | (go_at_call 14; with_reducible refine (awake_any _).mono ?_; rintro e w1 ⟨rfl, hb1⟩; obtain ⟨g1, rfl⟩ := more_of_below hb1; clear hb1) | (go_at_call 33; refine (punits_any _).mono ?_; rintro e wu1 ⟨v1, rfl, hu1, hbu1⟩; have HU1 := Lib.hid hu1; clear hu1; obtain ⟨gu1, rfl⟩ := more_of_below hbu1; clear hbu1) | (go_at_call 34; refine (runits_any _).mono ?_; rintro e wu2 ⟨gu, cu, rfl, _, hgu, hru, hbu2⟩; have HU2 := Lib.hid (units_rdr (c := cu) hgu hru); clear hgu hru; obtain ⟨gu2, rfl⟩ := more_of_below hbu2; clear hbu2) | (go_at_call 27; refine (rquats_any HU2.out unitsE_few unitsE_in).mono ?_; rintro e wu3 ⟨v3, rfl, hu3, hbu3⟩; have HU3 := Lib.hid hu3; clear hu3; obtain ⟨gu3, rfl⟩ := more_of_below hbu3; clear hbu3) | (go_at_call 26; refine (same_any (((HU1.out.mor gu2).mor gu3).rd) HU3.out.rd unitsQ_few unitsQ_few).mono ?_; rw [decide_eq_true rfl]; rintro e wu4 ⟨rfl, hbu4⟩; clear HU1 HU2 HU3; obtain ⟨gu4, rfl⟩ := more_of_below hbu4; clear hbu4) | (go_at_call 35; with_reducible refine (HE.out _).mono ?_; rintro e w2 ⟨rfl, hb2⟩; obtain ⟨g2, rfl⟩ := more_of_below hb2; clear hb2) | (go_at_call 16; first | ((with_reducible refine (EA.out _).mono ?_); rintro e w3 ⟨rfl, hb3⟩; obtain ⟨g3, rfl⟩ := more_of_below hb3; clear hb3) | ((with_reducible refine (EB.out _).mono ?_); rintro e w4 ⟨rfl, hb4⟩; obtain ⟨g4, rfl⟩ := more_of_below hb4; clear hb4)) | (go_at_call 30; with_reducible refine (lzero_zero _).mono ?_; rintro e w5 ⟨rfl, hb5⟩; obtain ⟨g5, rfl⟩ := more_of_below hb5; clear hb5) | (go_at_call 17; first | ((with_reducible refine (OX.out _).mono ?_); rintro e w6 ⟨rfl, hb6⟩; obtain ⟨g6, rfl⟩ := more_of_below hb6; clear hb6) | ((with_reducible refine (OY.out _).mono ?_); rintro e w7 ⟨rfl, hb7⟩; obtain ⟨g7, rfl⟩ := more_of_below hb7; clear hb7)))
  (refine wp_region_quiet (C := Ext _) (by kernel_rfl) (by kernel_rfl) (Ext.start _) ?_; simp only []; (repeat (refine wpQuiet_step (fun K hK => ?_); go_simp; (try go_bits); apply Exists.intro; refine ⟨fun w' hw' => ?_, hK _ ?_⟩; (focus (first | with_reducible exact rfl | (go_at_call 21; (first | with_reducible exact Ext.call hw' (NX.out _) | with_reducible exact Ext.call hw' (NY.out _))) | (obtain ⟨gx, rfl⟩ := more_of_below (Ext.below hw'); go_simp; exact rfl))); clear hK K)); refine wpQuiet_nil ?_; intro w8 hw8; have hb8 := Ext.below hw8; clear hw8; obtain ⟨g8, rfl⟩ := more_of_below hb8; clear hb8)
  go_wp2_with fail
  (refine wp_region_quiet (C := Ext _) (by kernel_rfl) (by kernel_rfl) (Ext.start _) ?_; simp only []; (repeat (refine wpQuiet_step (fun K hK => ?_); go_simp; (try go_bits); apply Exists.intro; refine ⟨fun w' hw' => ?_, hK _ ?_⟩; (focus (first | with_reducible exact rfl | (go_at_call 23; (with_reducible exact Ext.call hw' (CT.out _))) | (go_at_call 20; (with_reducible exact Ext.call hw' (CQ.out _))) | (obtain ⟨gx, rfl⟩ := more_of_below (Ext.below hw'); go_simp; exact rfl))); clear hK K)); refine wpQuiet_nil ?_; intro w10 hw10; have hb10 := Ext.below hw10; clear hw10; obtain ⟨g10, rfl⟩ := more_of_below hb10; clear hb10)
  go_wp2_with (first | (go_at_call 36; with_reducible refine (CN.out _).mono ?_; rintro e w11 ⟨rfl, hb11⟩; obtain ⟨g11, rfl⟩ := more_of_below hb11; clear hb11))
  (refine wp_region_calm_tail 11 (Ext _) (by kernel_rfl) (by kernel_rfl) (Ext.start _) ?_; simp only [List.take_succ_cons, List.take_zero, List.drop_succ_cons, List.drop_zero]; (repeat (refine wpQuiet_step (fun K hK => ?_); go_simp; (try go_bits); apply Exists.intro; refine ⟨fun w' hw' => ?_, hK _ ?_⟩; (focus (first | with_reducible exact rfl | (go_at_call 21; (first | with_reducible exact Ext.call hw' (NX.out _) | with_reducible exact Ext.call hw' (NY.out _))) | (obtain ⟨gx, rfl⟩ := more_of_below (Ext.below hw'); go_simp; exact rfl))); clear hK K)); refine wpQuiet_nil ?_; intro w12 hw12; have hb12 := Ext.below hw12; clear hw12; obtain ⟨g12, rfl⟩ := more_of_below hb12; clear hb12)
  go_wp2
  go_ret
  exact ⟨rfl, by (repeat (first | with_reducible assumption | with_reducible exact Below.refl _ _ | with_reducible refine Below.drewN ?_ _ | with_reducible refine Below.drew ?_ | with_reducible refine Below.alloc ?_ (by first | omega | (simp; done) | (simp; omega)) _ | with_reducible refine Below.setCell ?_ (by first | omega | (simp; done) | (simp; omega)) _ | with_reducible refine below_more _ _ ?_ (by first | omega | (simp; done) | (simp; omega))))⟩

theorem law_units (x y : Qd) (w : World) :
    Calls Try.prog 6 #[.agg #[.int .i64 x.w, .int .i64 x.x, .int .i64 x.y, .int .i64 x.z, .int .i64 x.d], .agg #[.int .i64 y.w, .int .i64 y.x, .int .i64 y.y, .int .i64 y.z, .int .i64 y.d]] w fun e w' => e = .returned (.bool true) ∧ Below w.heap.size w w' := by
  by_cases hx : x.oerr = 0
  · by_cases hy : y.oerr = 0
    · obtain ⟨hx1, hx2, hx3, hx4⟩ := Opn.of hx
      obtain ⟨hy1, hy2, hy3, hy4⟩ := Opn.of hy
      have ex := rerr_any x
      have ey := rerr_any y
      rw [hx] at ex
      rw [hy] at ey
      have n0 := x.rdv.nrm_nonneg
      have n1 := y.rdv.nrm_nonneg
      have hn : 0 ≤ x.rdv.nrm / 4 ∧ x.rdv.nrm / 4 ≤ 1000000 := by omega
      have hm : 0 ≤ y.rdv.nrm / 4 ∧ y.rdv.nrm / 4 ≤ 1000000 := by omega
      have ox := rof_ok x hx1 hx2
      have oy := rof_ok y hy1 hy2
      have nx := rnorm_in x.rdv (by omega)
      have ny := rnorm_in y.rdv (by omega)
      by_cases hl : 1000000 < x.rdv.nrm / 4 * (y.rdv.nrm / 4)
      · exact units_large x y _ _ _ _ hn hm hl (fun w => ptimes_large x y w hx hy hl) ox oy ex ey nx ny w
      · have hz := Qt.hz_hm hx3 hy3
        have hg := Qt.hm_nrm hx3 hy3
        have e1 := Qt.hz_nrm hx3
        have e2 := Qt.hz_nrm hy3
        have e3 : x.rdv.nrm * y.rdv.nrm = 16 * (x.rdv.nrm / 4 * (y.rdv.nrm / 4)) := by
          have f1 : x.rdv.nrm = 4 * (x.rdv.nrm / 4) := by omega
          have f2 : y.rdv.nrm = 4 * (y.rdv.nrm / 4) := by omega
          generalize x.rdv.nrm / 4 = a at *
          generalize y.rdv.nrm / 4 = b at *
          rw [f1, f2]; grind
        have e4 : (Qt.hm x.rdv y.rdv).nrm / 4 = x.rdv.nrm / 4 * (y.rdv.nrm / 4) := by omega
        have hb : (Qt.hm x.rdv y.rdv).nrm ≤ 4000003 := by omega
        have ct := rtimes_in x.rdv y.rdv (Qt.inR_of_nrm (by rw [Qt.nrm_mul]; omega))
        rw [Qt.hm_eq] at ct
        have cn := fun w => pnorm_ok (Qt.hm x.rdv y.rdv).toQ w (oerr_toQ hz hb)
        rw [rdv_toQ hz, e4] at cn
        exact units_ok x y _ _ _ _ _ hn hm hl (fun w => ptimes_ok x y w hx hy hl) ox oy ex ey nx ny ct (rquat_hz _ (Qt.inR_of_nrm (by omega)) hz) cn w
    · have hz0 := oerrL_two x y
      rw [if_pos hx] at hz0
      have hd := fun w => ptimes_err x y w (by rw [hz0]; exact hy)
      rw [hz0] at hd
      exact units_err x y _ hy hd _ _ (rerr_any x) (rerr_any y) (.inr ⟨hx, rfl⟩) w
  · have hz0 := oerrL_two x y
    rw [if_neg hx] at hz0
    have hd := fun w => ptimes_err x y w (by rw [hz0]; exact hx)
    rw [hz0] at hd
    exact units_err x y _ hx hd _ _ (rerr_any x) (rerr_any y) (.inl ⟨hx, rfl⟩) w
end Go.Proofs.Ythajaabgcbjfkaa
