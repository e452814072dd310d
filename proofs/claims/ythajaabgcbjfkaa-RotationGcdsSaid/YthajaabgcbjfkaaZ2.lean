/- The law RotationGcds: the walk. -/
import Derived.Test.YthajaabgcbjfkaaB3
import Derived.Test.YthajaabgcbjfkaaW1
namespace Go.Proofs.Ythajaabgcbjfkaa
open Go.RowKit

set_option maxHeartbeats 400000 in
theorem lzero_zero (w : World) :
    Calls Try.prog 30 #[.agg #[.int .i64 0, .int .i64 0, .int .i64 0, .int .i64 0, .int .i64 0]] w fun e w' => e = .returned (.bool true) ∧ Below w.heap.size w w' := by
  go_enter Try.func30, Try.ntmps30
  go_wp2
  go_ret
  exact ⟨rfl, by (repeat (first | with_reducible assumption | with_reducible exact Below.refl _ _ | with_reducible refine Below.drewN ?_ _ | with_reducible refine Below.drew ?_ | with_reducible refine Below.alloc ?_ (by first | omega | (simp; done) | (simp; omega)) _ | with_reducible refine Below.setCell ?_ (by first | omega | (simp; done) | (simp; omega)) _ | with_reducible refine below_more _ _ ?_ (by first | omega | (simp; done) | (simp; omega))))⟩

set_option maxRecDepth 100000 in
set_option maxHeartbeats 2000000 in
theorem gcds_err (x y : Qd) (d : Int) (hd : d ≠ 0) (he : ∀ w, Calls Try.prog 29 #[.agg #[.int .i64 x.w, .int .i64 x.x, .int .i64 x.y, .int .i64 x.z, .int .i64 x.d], .agg #[.int .i64 y.w, .int .i64 y.x, .int .i64 y.y, .int .i64 y.z, .int .i64 y.d]] w fun e w' => e = .returned (.tuple #[.agg #[.int .i64 0, .int .i64 0, .int .i64 0, .int .i64 0, .int .i64 0], .int .i64 d]) ∧ Below w.heap.size w w')
    (a b : Int) (ea : ∀ w, Calls Try.prog 16 #[.agg #[.int .i64 x.w, .int .i64 x.x, .int .i64 x.y, .int .i64 x.z, .int .i64 x.d]] w fun e w' => e = .returned (.int .i64 a) ∧ Below w.heap.size w w')
    (eb : ∀ w, Calls Try.prog 16 #[.agg #[.int .i64 y.w, .int .i64 y.x, .int .i64 y.y, .int .i64 y.z, .int .i64 y.d]] w fun e w' => e = .returned (.int .i64 b) ∧ Below w.heap.size w w')
    (hab : (a ≠ 0 ∧ d = a) ∨ (a = 0 ∧ d = b)) (w : World) :
    Calls Try.prog 5 #[.agg #[.int .i64 x.w, .int .i64 x.x, .int .i64 x.y, .int .i64 x.z, .int .i64 x.d], .agg #[.int .i64 y.w, .int .i64 y.x, .int .i64 y.y, .int .i64 y.z, .int .i64 y.d]] w fun e w' => e = .returned (.bool true) ∧ Below w.heap.size w w' := by
  have HE := Lib.hid he; have EA := Lib.hid ea; have EB := Lib.hid eb
  clear he ea eb
  have hd1 : (d == 0) = false := by simpa using hd
  have hd2 : (d != 0) = true := by simpa using hd
  rcases hab with ⟨ha, rfl⟩ | ⟨rfl, rfl⟩
  all_goals
    clear hd
    go_enter Try.func5, Try.ntmps5
    go_wp2_with (first | (go_at_call 14; with_reducible refine (awake_any _).mono ?_; rintro e w1 ⟨rfl, hb1⟩; obtain ⟨g1, rfl⟩ := more_of_below hb1; clear hb1) | (go_at_call 29; with_reducible refine (HE.out _).mono ?_; rintro e w2 ⟨rfl, hb2⟩; obtain ⟨g2, rfl⟩ := more_of_below hb2; clear hb2) | (go_at_call 16; first | ((with_reducible refine (EA.out _).mono ?_); rintro e w3 ⟨rfl, hb3⟩; obtain ⟨g3, rfl⟩ := more_of_below hb3; clear hb3) | ((with_reducible refine (EB.out _).mono ?_); rintro e w4 ⟨rfl, hb4⟩; obtain ⟨g4, rfl⟩ := more_of_below hb4; clear hb4)) | (go_at_call 30; with_reducible refine (lzero_zero _).mono ?_; rintro e w5 ⟨rfl, hb5⟩; obtain ⟨g5, rfl⟩ := more_of_below hb5; clear hb5))
    go_ret
    exact ⟨rfl, by (repeat (first | with_reducible assumption | with_reducible exact Below.refl _ _ | with_reducible refine Below.drewN ?_ _ | with_reducible refine Below.drew ?_ | with_reducible refine Below.alloc ?_ (by first | omega | (simp; done) | (simp; omega)) _ | with_reducible refine Below.setCell ?_ (by first | omega | (simp; done) | (simp; omega)) _ | with_reducible refine below_more _ _ ?_ (by first | omega | (simp; done) | (simp; omega))))⟩

set_option maxRecDepth 100000 in
set_option maxHeartbeats 4000000 in
theorem gcds_ok (x y : Qd) (X Y G q1 q2 : Qt) (bz bx by_ : Bool) (hz : (bz = true ∧ bx = true ∧ by_ = true) ∨ bz = false) (he : ∀ w, Calls Try.prog 29 #[.agg #[.int .i64 x.w, .int .i64 x.x, .int .i64 x.y, .int .i64 x.z, .int .i64 x.d], .agg #[.int .i64 y.w, .int .i64 y.x, .int .i64 y.y, .int .i64 y.z, .int .i64 y.d]] w fun e w' => e = .returned (.tuple #[.agg #[.int .i64 G.toQ.w, .int .i64 G.toQ.x, .int .i64 G.toQ.y, .int .i64 G.toQ.z, .int .i64 G.toQ.d], .int .i64 0]) ∧ Below w.heap.size w w')
    (ox : ∀ w, Calls Try.prog 17 #[.agg #[.int .i64 x.w, .int .i64 x.x, .int .i64 x.y, .int .i64 x.z, .int .i64 x.d]] w fun e w' => e = .returned (.tuple #[.agg #[.int .i64 X.w, .int .i64 X.x, .int .i64 X.y, .int .i64 X.z], .bool true]) ∧ Below w.heap.size w w')
    (oy : ∀ w, Calls Try.prog 17 #[.agg #[.int .i64 y.w, .int .i64 y.x, .int .i64 y.y, .int .i64 y.z, .int .i64 y.d]] w fun e w' => e = .returned (.tuple #[.agg #[.int .i64 Y.w, .int .i64 Y.x, .int .i64 Y.y, .int .i64 Y.z], .bool true]) ∧ Below w.heap.size w w')
    (ea : ∀ w, Calls Try.prog 16 #[.agg #[.int .i64 x.w, .int .i64 x.x, .int .i64 x.y, .int .i64 x.z, .int .i64 x.d]] w fun e w' => e = .returned (.int .i64 0) ∧ Below w.heap.size w w')
    (eb : ∀ w, Calls Try.prog 16 #[.agg #[.int .i64 y.w, .int .i64 y.x, .int .i64 y.y, .int .i64 y.z, .int .i64 y.d]] w fun e w' => e = .returned (.int .i64 0) ∧ Below w.heap.size w w')
    (cg : ∀ w, Calls Try.prog 31 #[.agg #[.int .i64 X.w, .int .i64 X.x, .int .i64 X.y, .int .i64 X.z], .agg #[.int .i64 Y.w, .int .i64 Y.x, .int .i64 Y.y, .int .i64 Y.z]] w fun e w' => e = .returned (.agg #[.int .i64 G.w, .int .i64 G.x, .int .i64 G.y, .int .i64 G.z]) ∧ Below w.heap.size w w')
    (cq : ∀ w, Calls Try.prog 20 #[.agg #[.int .i64 G.w, .int .i64 G.x, .int .i64 G.y, .int .i64 G.z]] w fun e w' => e = .returned (.agg #[.int .i64 G.toQ.w, .int .i64 G.toQ.x, .int .i64 G.toQ.y, .int .i64 G.toQ.z, .int .i64 G.toQ.d]) ∧ Below w.heap.size w w')
    (z0 : ∀ w, Calls Try.prog 18 #[.agg #[.int .i64 G.w, .int .i64 G.x, .int .i64 G.y, .int .i64 G.z]] w fun e w' => e = .returned (.bool bz) ∧ Below w.heap.size w w')
    (z1 : ∀ w, Calls Try.prog 18 #[.agg #[.int .i64 X.w, .int .i64 X.x, .int .i64 X.y, .int .i64 X.z]] w fun e w' => e = .returned (.bool bx) ∧ Below w.heap.size w w')
    (z2 : ∀ w, Calls Try.prog 18 #[.agg #[.int .i64 Y.w, .int .i64 Y.x, .int .i64 Y.y, .int .i64 Y.z]] w fun e w' => e = .returned (.bool by_) ∧ Below w.heap.size w w')
    (l1 : bz = false → ∀ w, Calls Try.prog 32 #[.agg #[.int .i64 X.w, .int .i64 X.x, .int .i64 X.y, .int .i64 X.z], .agg #[.int .i64 G.w, .int .i64 G.x, .int .i64 G.y, .int .i64 G.z]] w fun e w' => e = .returned (.tuple #[.agg #[.int .i64 q1.w, .int .i64 q1.x, .int .i64 q1.y, .int .i64 q1.z], .bool true]) ∧ Below w.heap.size w w')
    (l2 : bz = false → ∀ w, Calls Try.prog 32 #[.agg #[.int .i64 Y.w, .int .i64 Y.x, .int .i64 Y.y, .int .i64 Y.z], .agg #[.int .i64 G.w, .int .i64 G.x, .int .i64 G.y, .int .i64 G.z]] w fun e w' => e = .returned (.tuple #[.agg #[.int .i64 q2.w, .int .i64 q2.x, .int .i64 q2.y, .int .i64 q2.z], .bool true]) ∧ Below w.heap.size w w') (w : World) :
    Calls Try.prog 5 #[.agg #[.int .i64 x.w, .int .i64 x.x, .int .i64 x.y, .int .i64 x.z, .int .i64 x.d], .agg #[.int .i64 y.w, .int .i64 y.x, .int .i64 y.y, .int .i64 y.z, .int .i64 y.d]] w fun e w' => e = .returned (.bool true) ∧ Below w.heap.size w w' := by
  have HE := Lib.hid he; have OX := Lib.hid ox; have OY := Lib.hid oy; have EA := Lib.hid ea; have EB := Lib.hid eb
  have CG := Lib.hid cg; have CQ := Lib.hid cq; have Z0 := Lib.hid z0; have Z1 := Lib.hid z1; have Z2 := Lib.hid z2; have L1 := Lib.hid l1; have L2 := Lib.hid l2
  clear he ox oy ea eb cg cq z0 z1 z2 l1 l2
  generalize G.toQ = Q at *
  rcases hz with ⟨rfl, rfl, rfl⟩ | rfl
  all_goals (try (replace L1 := Lib.hid (L1.out rfl); replace L2 := Lib.hid (L2.out rfl)))
  all_goals
    go_enter Try.func5, Try.ntmps5
    go_wp2_with (first | (go_at_call 14; with_reducible refine (awake_any _).mono ?_; rintro e w1 ⟨rfl, hb1⟩; obtain ⟨g1, rfl⟩ := more_of_below hb1; clear hb1) | (go_at_call 29; with_reducible refine (HE.out _).mono ?_; rintro e w2 ⟨rfl, hb2⟩; obtain ⟨g2, rfl⟩ := more_of_below hb2; clear hb2) | (go_at_call 16; first | ((with_reducible refine (EA.out _).mono ?_); rintro e w3 ⟨rfl, hb3⟩; obtain ⟨g3, rfl⟩ := more_of_below hb3; clear hb3) | ((with_reducible refine (EB.out _).mono ?_); rintro e w4 ⟨rfl, hb4⟩; obtain ⟨g4, rfl⟩ := more_of_below hb4; clear hb4)) | (go_at_call 17; first | ((with_reducible refine (OX.out _).mono ?_); rintro e w5 ⟨rfl, hb5⟩; obtain ⟨g5, rfl⟩ := more_of_below hb5; clear hb5) | ((with_reducible refine (OY.out _).mono ?_); rintro e w6 ⟨rfl, hb6⟩; obtain ⟨g6, rfl⟩ := more_of_below hb6; clear hb6)) | (go_at_call 31; with_reducible refine (CG.out _).mono ?_; rintro e w7 ⟨rfl, hb7⟩; obtain ⟨g7, rfl⟩ := more_of_below hb7; clear hb7))
    (refine wp_region_quiet (C := Ext _) (by kernel_rfl) (by kernel_rfl) (Ext.start _) ?_; simp only []; (repeat (refine wpQuiet_step (fun K hK => ?_); go_simp; (try go_bits); apply Exists.intro; refine ⟨fun w' hw' => ?_, hK _ ?_⟩; (focus (first | with_reducible exact rfl | (go_at_call 20; (with_reducible exact Ext.call hw' (CQ.out _))) | (obtain ⟨gx, rfl⟩ := more_of_below (Ext.below hw'); go_simp; exact rfl))); clear hK K)); refine wpQuiet_nil ?_; intro w8 hw8; have hb8 := Ext.below hw8; clear hw8; obtain ⟨g8, rfl⟩ := more_of_below hb8; clear hb8)
    go_wp2_with (first | (go_at_call 18; first | ((with_reducible refine (Z0.out _).mono ?_); rintro e wa ⟨rfl, hba⟩; obtain ⟨ga, rfl⟩ := more_of_below hba; clear hba) | ((with_reducible refine (Z1.out _).mono ?_); rintro e wb ⟨rfl, hbb⟩; obtain ⟨gb, rfl⟩ := more_of_below hbb; clear hbb) | ((with_reducible refine (Z2.out _).mono ?_); rintro e wc ⟨rfl, hbc⟩; obtain ⟨gc, rfl⟩ := more_of_below hbc; clear hbc)) | (go_at_call 32; first | ((with_reducible refine (L1.out _).mono ?_); rintro e wd ⟨rfl, hbd⟩; obtain ⟨gd, rfl⟩ := more_of_below hbd; clear hbd) | ((with_reducible refine (L2.out _).mono ?_); rintro e wf ⟨rfl, hbf⟩; obtain ⟨gf, rfl⟩ := more_of_below hbf; clear hbf)))
    go_ret
    exact ⟨rfl, by (repeat (first | with_reducible assumption | with_reducible exact Below.refl _ _ | with_reducible refine Below.drewN ?_ _ | with_reducible refine Below.drew ?_ | with_reducible refine Below.alloc ?_ (by first | omega | (simp; done) | (simp; omega)) _ | with_reducible refine Below.setCell ?_ (by first | omega | (simp; done) | (simp; omega)) _ | with_reducible refine below_more _ _ ?_ (by first | omega | (simp; done) | (simp; omega))))⟩

theorem law_gcds (x y : Qd) (w : World) :
    Calls Try.prog 5 #[.agg #[.int .i64 x.w, .int .i64 x.x, .int .i64 x.y, .int .i64 x.z, .int .i64 x.d], .agg #[.int .i64 y.w, .int .i64 y.x, .int .i64 y.y, .int .i64 y.z, .int .i64 y.d]] w fun e w' => e = .returned (.bool true) ∧ Below w.heap.size w w' := by
  by_cases hx : x.oerr = 0
  · by_cases hy : y.oerr = 0
    · obtain ⟨hx1, hx2, hx3, hx4⟩ := Opn.of hx
      obtain ⟨hy1, hy2, hy3, hy4⟩ := Opn.of hy
      have ex := rerr_any x
      have ey := rerr_any y
      rw [hx] at ex
      rw [hy] at ey
      obtain ⟨g1, ⟨q1, hq1, e1⟩, ⟨q2, hq2, e2⟩, _⟩ := gcdQ_spec hx3 hy3
      have gn := gcdQ_nrm hx3 hy3 hx4 hy4
      have hE := fun w => pgcd_ok x y w hx hy
      have cg := rgcd_in x.rdv y.rdv hx3 hy3 (by omega) (by omega)
      have g0 := (gcdQ x.rdv y.rdv).nrm_nonneg
      have gm := Qt.hz_nrm g1
      generalize gcdQ x.rdv y.rdv = G at *
      have cq := rquat_hz G (Qt.inR_of_nrm (by omega)) g1
      refine gcds_ok x y x.rdv y.rdv G q1 q2 _ _ _ ?_ hE (rof_ok x hx1 hx2) (rof_ok y hy1 hy2) ex ey cg cq (rzero_any G) (rzero_any x.rdv) (rzero_any y.rdv) ?_ ?_ w
      · cases hG : G.eqb ⟨0, 0, 0, 0⟩
        · exact .inr rfl
        · have := Qt.eq_zero_of_eqb hG
          rw [this, Qt.zero_hm] at e1 e2
          rw [e1, e2]
          exact .inl ⟨rfl, by decide, by decide⟩
      all_goals
        intro hG w
        have hp := nrm_pos_of hG
        have n1 := Qt.hm_nrm g1 hq1
        have n2 := Qt.hm_nrm g1 hq2
        have k1 := q1.nrm_nonneg
        have k2 := q2.nrm_nonneg
        have m1 : 4 * q1.nrm ≤ G.nrm * q1.nrm := Int.mul_le_mul_of_nonneg_right (by omega) k1
        have m2 : 4 * q2.nrm ≤ G.nrm * q2.nrm := Int.mul_le_mul_of_nonneg_right (by omega) k2
        rw [← e1] at n1
        rw [← e2] at n2
      · rw [e1]; exact rleft_ok G q1 g1 hq1 (by omega) (by omega) (by omega) w
      · rw [e2]; exact rleft_ok G q2 g1 hq2 (by omega) (by omega) (by omega) w
    · have hz0 := oerrL_two x y
      rw [if_pos hx] at hz0
      have hd := fun w => pgcd_err x y w (by rw [hz0]; exact hy)
      rw [hz0] at hd
      exact gcds_err x y _ hy hd _ _ (rerr_any x) (rerr_any y) (.inr ⟨hx, rfl⟩) w
  · have hz0 := oerrL_two x y
    rw [if_neg hx] at hz0
    have hd := fun w => pgcd_err x y w (by rw [hz0]; exact hx)
    rw [hz0] at hd
    exact gcds_err x y _ hx hd _ _ (rerr_any x) (rerr_any y) (.inl ⟨hx, rfl⟩) w
end Go.Proofs.Ythajaabgcbjfkaa
