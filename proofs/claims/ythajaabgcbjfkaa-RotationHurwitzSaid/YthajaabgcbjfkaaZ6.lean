/- The law RotationHurwitz: the walk. -/
import Derived.Test.YthajaabgcbjfkaaT2
import Derived.Test.YthajaabgcbjfkaaZ4
namespace Go.Proofs.Ythajaabgcbjfkaa
open Go.RowKit

set_option maxRecDepth 100000 in
set_option maxHeartbeats 4000000 in
theorem hurwitz_err (x : Qd) (v : Qt) (b : Bool) (d : Int) (hd : d ≠ 0)
    (e1 : ∀ w, Calls Try.prog 36 #[.agg #[.int .i64 x.w, .int .i64 x.x, .int .i64 x.y, .int .i64 x.z, .int .i64 x.d]] w fun e w' => e = .returned (.tuple #[.int .i64 0, .int .i64 d]) ∧ Below w.heap.size w w')
    (e2 : ∀ w, Calls Try.prog 40 #[.agg #[.int .i64 x.w, .int .i64 x.x, .int .i64 x.y, .int .i64 x.z, .int .i64 x.d]] w fun e w' => e = .returned (.tuple #[.agg #[.int .i64 0, .int .i64 0, .int .i64 0, .int .i64 0, .int .i64 0], .int .i64 d]) ∧ Below w.heap.size w w')
    (e3 : ∀ w, Calls Try.prog 41 #[.agg #[.int .i64 x.w, .int .i64 x.x, .int .i64 x.y, .int .i64 x.z, .int .i64 x.d]] w fun e w' => e = .returned (.tuple #[.int .i64 0, .int .i64 d]) ∧ Below w.heap.size w w')
    (ox : ∀ w, Calls Try.prog 17 #[.agg #[.int .i64 x.w, .int .i64 x.x, .int .i64 x.y, .int .i64 x.z, .int .i64 x.d]] w fun e w' => e = .returned (.tuple #[.agg #[.int .i64 v.w, .int .i64 v.x, .int .i64 v.y, .int .i64 v.z], .bool b]) ∧ Below w.heap.size w w')
    (oh : ∀ w, Calls Try.prog 42 #[.agg #[.int .i64 x.w, .int .i64 x.x, .int .i64 x.y, .int .i64 x.z, .int .i64 x.d]] w fun e w' => e = .returned (.bool b) ∧ Below w.heap.size w w')
    (ea : ∀ w, Calls Try.prog 16 #[.agg #[.int .i64 x.w, .int .i64 x.x, .int .i64 x.y, .int .i64 x.z, .int .i64 x.d]] w fun e w' => e = .returned (.int .i64 d) ∧ Below w.heap.size w w') (w : World) :
    Calls Try.prog 8 #[.agg #[.int .i64 x.w, .int .i64 x.x, .int .i64 x.y, .int .i64 x.z, .int .i64 x.d]] w fun e w' => e = .returned (.bool true) ∧ Below w.heap.size w w' := by
  have E1 := Lib.hid e1; have E2 := Lib.hid e2; have E3 := Lib.hid e3; have OX := Lib.hid ox; have OH := Lib.hid oh; have EA := Lib.hid ea
  clear e1 e2 e3 ox oh ea
  have hd2 : (d != 0) = true := by simpa using hd
  have hbb : (b != b) = false := by simp
  clear hd
  go_enter Try.func8, Try.ntmps8
  go_wp2_with (first | (go_at_call 14; with_reducible refine (awake_any _).mono ?_; rintro e w1 ⟨rfl, hb1⟩; obtain ⟨g1, rfl⟩ := more_of_below hb1; clear hb1) | (go_at_call 36; with_reducible refine (E1.out _).mono ?_; rintro e w2 ⟨rfl, hb2⟩; obtain ⟨g2, rfl⟩ := more_of_below hb2; clear hb2) | (go_at_call 40; with_reducible refine (E2.out _).mono ?_; rintro e w3 ⟨rfl, hb3⟩; obtain ⟨g3, rfl⟩ := more_of_below hb3; clear hb3) | (go_at_call 41; with_reducible refine (E3.out _).mono ?_; rintro e w4 ⟨rfl, hb4⟩; obtain ⟨g4, rfl⟩ := more_of_below hb4; clear hb4) | (go_at_call 17; with_reducible refine (OX.out _).mono ?_; rintro e w5 ⟨rfl, hb5⟩; obtain ⟨g5, rfl⟩ := more_of_below hb5; clear hb5) | (go_at_call 42; with_reducible refine (OH.out _).mono ?_; rintro e w6 ⟨rfl, hb6⟩; obtain ⟨g6, rfl⟩ := more_of_below hb6; clear hb6) | (go_at_call 16; with_reducible refine (EA.out _).mono ?_; rintro e w7 ⟨rfl, hb7⟩; obtain ⟨g7, rfl⟩ := more_of_below hb7; clear hb7) | (go_at_call 30; with_reducible refine (lzero_zero _).mono ?_; rintro e w8 ⟨rfl, hb8⟩; obtain ⟨g8, rfl⟩ := more_of_below hb8; clear hb8))
  go_ret
  exact ⟨rfl, by (repeat (first | with_reducible assumption | with_reducible exact Below.refl _ _ | with_reducible refine Below.drewN ?_ _ | with_reducible refine Below.drew ?_ | with_reducible refine Below.alloc ?_ (by first | omega | (simp; done) | (simp; omega)) _ | with_reducible refine Below.setCell ?_ (by first | omega | (simp; done) | (simp; omega)) _ | with_reducible refine below_more _ _ ?_ (by first | omega | (simp; done) | (simp; omega))))⟩

set_option maxRecDepth 100000 in
set_option maxHeartbeats 4000000 in
theorem hurwitz_ok (x : Qd) (X C : Qt) (n : Int) (Q : Qd) (z : Bool) (m k : Int) (hmk : (z = true ∧ m = 0 ∧ k = 10) ∨ (z = false ∧ k = 0))
    (e1 : ∀ w, Calls Try.prog 36 #[.agg #[.int .i64 x.w, .int .i64 x.x, .int .i64 x.y, .int .i64 x.z, .int .i64 x.d]] w fun e w' => e = .returned (.tuple #[.int .i64 n, .int .i64 0]) ∧ Below w.heap.size w w')
    (e2 : ∀ w, Calls Try.prog 40 #[.agg #[.int .i64 x.w, .int .i64 x.x, .int .i64 x.y, .int .i64 x.z, .int .i64 x.d]] w fun e w' => e = .returned (.tuple #[.agg #[.int .i64 Q.w, .int .i64 Q.x, .int .i64 Q.y, .int .i64 Q.z, .int .i64 Q.d], .int .i64 0]) ∧ Below w.heap.size w w')
    (e3 : ∀ w, Calls Try.prog 41 #[.agg #[.int .i64 x.w, .int .i64 x.x, .int .i64 x.y, .int .i64 x.z, .int .i64 x.d]] w fun e w' => e = .returned (.tuple #[.int .i64 m, .int .i64 k]) ∧ Below w.heap.size w w')
    (ox : ∀ w, Calls Try.prog 17 #[.agg #[.int .i64 x.w, .int .i64 x.x, .int .i64 x.y, .int .i64 x.z, .int .i64 x.d]] w fun e w' => e = .returned (.tuple #[.agg #[.int .i64 X.w, .int .i64 X.x, .int .i64 X.y, .int .i64 X.z], .bool true]) ∧ Below w.heap.size w w')
    (oh : ∀ w, Calls Try.prog 42 #[.agg #[.int .i64 x.w, .int .i64 x.x, .int .i64 x.y, .int .i64 x.z, .int .i64 x.d]] w fun e w' => e = .returned (.bool true) ∧ Below w.heap.size w w')
    (ea : ∀ w, Calls Try.prog 16 #[.agg #[.int .i64 x.w, .int .i64 x.x, .int .i64 x.y, .int .i64 x.z, .int .i64 x.d]] w fun e w' => e = .returned (.int .i64 0) ∧ Below w.heap.size w w')
    (nx : ∀ w, Calls Try.prog 21 #[.agg #[.int .i64 X.w, .int .i64 X.x, .int .i64 X.y, .int .i64 X.z]] w fun e w' => e = .returned (.int .i64 n) ∧ Below w.heap.size w w')
    (cx : ∀ w, Calls Try.prog 43 #[.agg #[.int .i64 X.w, .int .i64 X.x, .int .i64 X.y, .int .i64 X.z]] w fun e w' => e = .returned (.agg #[.int .i64 C.w, .int .i64 C.x, .int .i64 C.y, .int .i64 C.z]) ∧ Below w.heap.size w w')
    (cq : ∀ w, Calls Try.prog 20 #[.agg #[.int .i64 C.w, .int .i64 C.x, .int .i64 C.y, .int .i64 C.z]] w fun e w' => e = .returned (.agg #[.int .i64 Q.w, .int .i64 Q.x, .int .i64 Q.y, .int .i64 Q.z, .int .i64 Q.d]) ∧ Below w.heap.size w w')
    (zx : ∀ w, Calls Try.prog 18 #[.agg #[.int .i64 X.w, .int .i64 X.x, .int .i64 X.y, .int .i64 X.z]] w fun e w' => e = .returned (.bool z) ∧ Below w.heap.size w w')
    (kx : z = false → ∀ w, Calls Try.prog 44 #[.agg #[.int .i64 X.w, .int .i64 X.x, .int .i64 X.y, .int .i64 X.z]] w fun e w' => e = .returned (.int .i64 m) ∧ Below w.heap.size w w') (w : World) :
    Calls Try.prog 8 #[.agg #[.int .i64 x.w, .int .i64 x.x, .int .i64 x.y, .int .i64 x.z, .int .i64 x.d]] w fun e w' => e = .returned (.bool true) ∧ Below w.heap.size w w' := by
  have E1 := Lib.hid e1; have E2 := Lib.hid e2; have E3 := Lib.hid e3; have OX := Lib.hid ox; have OH := Lib.hid oh; have EA := Lib.hid ea
  have NX := Lib.hid nx; have CX := Lib.hid cx; have CQ := Lib.hid cq; have ZX := Lib.hid zx; have KX := Lib.hid kx
  clear e1 e2 e3 ox oh ea nx cx cq zx kx
  rcases hmk with ⟨rfl, rfl, rfl⟩ | ⟨rfl, rfl⟩
  · clear KX
    go_enter Try.func8, Try.ntmps8
    go_wp2_with (first | (go_at_call 14; with_reducible refine (awake_any _).mono ?_; rintro e w1 ⟨rfl, hb1⟩; obtain ⟨g1, rfl⟩ := more_of_below hb1; clear hb1) | (go_at_call 36; with_reducible refine (E1.out _).mono ?_; rintro e w2 ⟨rfl, hb2⟩; obtain ⟨g2, rfl⟩ := more_of_below hb2; clear hb2) | (go_at_call 40; with_reducible refine (E2.out _).mono ?_; rintro e w3 ⟨rfl, hb3⟩; obtain ⟨g3, rfl⟩ := more_of_below hb3; clear hb3) | (go_at_call 41; with_reducible refine (E3.out _).mono ?_; rintro e w4 ⟨rfl, hb4⟩; obtain ⟨g4, rfl⟩ := more_of_below hb4; clear hb4) | (go_at_call 17; with_reducible refine (OX.out _).mono ?_; rintro e w5 ⟨rfl, hb5⟩; obtain ⟨g5, rfl⟩ := more_of_below hb5; clear hb5) | (go_at_call 42; with_reducible refine (OH.out _).mono ?_; rintro e w6 ⟨rfl, hb6⟩; obtain ⟨g6, rfl⟩ := more_of_below hb6; clear hb6) | (go_at_call 16; with_reducible refine (EA.out _).mono ?_; rintro e w7 ⟨rfl, hb7⟩; obtain ⟨g7, rfl⟩ := more_of_below hb7; clear hb7))
    (refine wp_region_quiet (C := Ext _) (by kernel_rfl) (by kernel_rfl) (Ext.start _) ?_; simp only []; (repeat (refine wpQuiet_step (fun K hK => ?_); go_simp; (try go_bits); apply Exists.intro; refine ⟨fun w' hw' => ?_, hK _ ?_⟩; (focus (first | with_reducible exact rfl | (go_at_call 21; (with_reducible exact Ext.call hw' (NX.out _))) | (go_at_call 43; (with_reducible exact Ext.call hw' (CX.out _))) | (go_at_call 20; (with_reducible exact Ext.call hw' (CQ.out _))) | (obtain ⟨gx, rfl⟩ := more_of_below (Ext.below hw'); go_simp; exact rfl))); clear hK K)); refine wpQuiet_nil ?_; intro w8 hw8; have hb8 := Ext.below hw8; clear hw8; obtain ⟨g8, rfl⟩ := more_of_below hb8; clear hb8)
    go_wp2_with (first | (go_at_call 18; with_reducible refine (ZX.out _).mono ?_; rintro e w9 ⟨rfl, hb9⟩; obtain ⟨g9, rfl⟩ := more_of_below hb9; clear hb9))
    go_ret
    exact ⟨rfl, by (repeat (first | with_reducible assumption | with_reducible exact Below.refl _ _ | with_reducible refine Below.drewN ?_ _ | with_reducible refine Below.drew ?_ | with_reducible refine Below.alloc ?_ (by first | omega | (simp; done) | (simp; omega)) _ | with_reducible refine Below.setCell ?_ (by first | omega | (simp; done) | (simp; omega)) _ | with_reducible refine below_more _ _ ?_ (by first | omega | (simp; done) | (simp; omega))))⟩
  · have KK := Lib.hid (KX.out rfl)
    clear KX
    go_enter Try.func8, Try.ntmps8
    go_wp2_with (first | (go_at_call 14; with_reducible refine (awake_any _).mono ?_; rintro e w1 ⟨rfl, hb1⟩; obtain ⟨g1, rfl⟩ := more_of_below hb1; clear hb1) | (go_at_call 36; with_reducible refine (E1.out _).mono ?_; rintro e w2 ⟨rfl, hb2⟩; obtain ⟨g2, rfl⟩ := more_of_below hb2; clear hb2) | (go_at_call 40; with_reducible refine (E2.out _).mono ?_; rintro e w3 ⟨rfl, hb3⟩; obtain ⟨g3, rfl⟩ := more_of_below hb3; clear hb3) | (go_at_call 41; with_reducible refine (E3.out _).mono ?_; rintro e w4 ⟨rfl, hb4⟩; obtain ⟨g4, rfl⟩ := more_of_below hb4; clear hb4) | (go_at_call 17; with_reducible refine (OX.out _).mono ?_; rintro e w5 ⟨rfl, hb5⟩; obtain ⟨g5, rfl⟩ := more_of_below hb5; clear hb5) | (go_at_call 42; with_reducible refine (OH.out _).mono ?_; rintro e w6 ⟨rfl, hb6⟩; obtain ⟨g6, rfl⟩ := more_of_below hb6; clear hb6) | (go_at_call 16; with_reducible refine (EA.out _).mono ?_; rintro e w7 ⟨rfl, hb7⟩; obtain ⟨g7, rfl⟩ := more_of_below hb7; clear hb7))
    (refine wp_region_quiet (C := Ext _) (by kernel_rfl) (by kernel_rfl) (Ext.start _) ?_; simp only []; (repeat (refine wpQuiet_step (fun K hK => ?_); go_simp; (try go_bits); apply Exists.intro; refine ⟨fun w' hw' => ?_, hK _ ?_⟩; (focus (first | with_reducible exact rfl | (go_at_call 21; (with_reducible exact Ext.call hw' (NX.out _))) | (go_at_call 43; (with_reducible exact Ext.call hw' (CX.out _))) | (go_at_call 20; (with_reducible exact Ext.call hw' (CQ.out _))) | (obtain ⟨gx, rfl⟩ := more_of_below (Ext.below hw'); go_simp; exact rfl))); clear hK K)); refine wpQuiet_nil ?_; intro w8 hw8; have hb8 := Ext.below hw8; clear hw8; obtain ⟨g8, rfl⟩ := more_of_below hb8; clear hb8)
    go_wp2_with (first | (go_at_call 18; with_reducible refine (ZX.out _).mono ?_; rintro e w9 ⟨rfl, hb9⟩; obtain ⟨g9, rfl⟩ := more_of_below hb9; clear hb9) | (go_at_call 44; with_reducible refine (KK.out _).mono ?_; rintro e w10 ⟨rfl, hb10⟩; obtain ⟨g10, rfl⟩ := more_of_below hb10; clear hb10))
    go_ret
    exact ⟨rfl, by (repeat (first | with_reducible assumption | with_reducible exact Below.refl _ _ | with_reducible refine Below.drewN ?_ _ | with_reducible refine Below.drew ?_ | with_reducible refine Below.alloc ?_ (by first | omega | (simp; done) | (simp; omega)) _ | with_reducible refine Below.setCell ?_ (by first | omega | (simp; done) | (simp; omega)) _ | with_reducible refine below_more _ _ ?_ (by first | omega | (simp; done) | (simp; omega))))⟩

theorem law_hurwitz (x : Qd) (w : World) :
    Calls Try.prog 8 #[.agg #[.int .i64 x.w, .int .i64 x.x, .int .i64 x.y, .int .i64 x.z, .int .i64 x.d]] w fun e w' => e = .returned (.bool true) ∧ Below w.heap.size w w' := by
  by_cases hx : x.oerr = 0
  · obtain ⟨hx1, hx2, hx3, hx4⟩ := Opn.of hx
    have ex := rerr_any x
    rw [hx] at ex
    have oh := ishur_any x
    rw [hx1, hx2] at oh
    have n0 := x.rdv.nrm_nonneg
    have hb : Qt.Bd 4000000 x.rdv := Qt.bd_of_nrm (by omega) (by omega)
    have cn := canon_nrm hx3
    have cq := rquat_hz (canon x.rdv) (Qt.inR_of_nrm (by omega)) (canon_hz hx3).1
    have rz := rzero_any x.rdv
    cases hz : x.rdv.eqb ⟨0, 0, 0, 0⟩
    · rw [hz] at rz
      exact hurwitz_ok x _ _ _ _ _ _ _ (.inr ⟨rfl, rfl⟩) (fun w => pnorm_ok x w hx) (fun w => pcanon_ok x w hx) (fun w => pcontent_ok x w hx hz) (rof_ok x hx1 hx2) oh ex (rnorm_in x.rdv (by omega)) (rcanonical_hz x.rdv (by omega)) cq rz (fun _ => rcontent_hz x.rdv hx3 hz hb) w
    · rw [hz] at rz
      exact hurwitz_ok x _ _ _ _ _ _ _ (.inl ⟨rfl, rfl, rfl⟩) (fun w => pnorm_ok x w hx) (fun w => pcanon_ok x w hx) (fun w => pcontent_zero x w hx hz) (rof_ok x hx1 hx2) oh ex (rnorm_in x.rdv (by omega)) (rcanonical_hz x.rdv (by omega)) cq rz (fun h => Bool.noConfusion h) w
  · have ho : x.ofOk = (x.okb && x.rdok) := by
      cases hk : x.okb
      · simp [Qd.ofOk, hk]
      · rw [(Qd.of_spec hk).1, Bool.true_and]
    have ro := rof_any x
    rw [ho] at ro
    exact hurwitz_err x _ _ _ hx (fun w => pnorm_err x w hx) (fun w => pcanon_err x w hx) (fun w => pcontent_err x w hx) ro (ishur_any x) (rerr_any x) w
end Go.Proofs.Ythajaabgcbjfkaa
