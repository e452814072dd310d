/- Contracts: Units, Norm, Times; an element read back. -/
import Derived.Test.YthajaabgcbjfkaaB3
namespace Go.Proofs.Ythajaabgcbjfkaa
open Go.RowKit

theorem Qt.toQ_cases {h : Qt} (hz : Qt.Hz h) : (∃ a b c d : Int, h = ⟨2 * a, 2 * b, 2 * c, 2 * d⟩ ∧ h.toQ = ⟨a, b, c, d, 1⟩) ∨ h.toQ = ⟨h.w, h.x, h.y, h.z, 2⟩ := by
  obtain ⟨h1, h2, h3⟩ := (Qt.hz_iff h).1 hz
  by_cases he : h.w % 2 = 0
  · refine .inl ⟨h.w.tdiv 2, h.x.tdiv 2, h.y.tdiv 2, h.z.tdiv 2, ?_, by unfold Qt.toQ; rw [if_pos he]⟩
    have t : ∀ a : Int, a % 2 = 0 → a = 2 * a.tdiv 2 := fun a ha => by
      obtain ⟨b, rfl⟩ : ∃ b, a = 2 * b := ⟨a / 2, by omega⟩
      rw [Int.mul_tdiv_cancel_left _ (by omega)]
    cases h
    simp only at *
    rw [← t _ he, ← t _ (by omega), ← t _ (by omega), ← t _ (by omega)]
  · exact .inr (by unfold Qt.toQ; rw [if_neg he])
theorem rdv_toQ {h : Qt} (hz : Qt.Hz h) : h.toQ.rdv = h := by
  rcases Qt.toQ_cases hz with ⟨a, b, c, d, rfl, e⟩ | e
  · rw [e]; simp only [Qd.rdv, Int.tdiv_one]
  · rw [e]
    have t : ∀ a : Int, (2 * a).tdiv 2 = a := fun a => Int.mul_tdiv_cancel_left _ (by omega)
    simp only [Qd.rdv, t]
theorem rdok_toQ {h : Qt} (hz : Qt.Hz h) : h.toQ.rdok = true := by
  have hr := rdv_toQ hz
  obtain ⟨h1, h2, h3⟩ := (Qt.hz_iff h).1 hz
  have t : ∀ a : Int, a % 2 = 0 → (a.tmod 2 != 0) = false := fun a ha => by rw [bne_eq_false_iff_eq, tmod2]; exact ha
  have r1 := congrArg Qt.w hr
  have r2 := congrArg Qt.x hr
  have r3 := congrArg Qt.y hr
  have r4 := congrArg Qt.z hr
  simp only [Qd.rdv] at r1 r2 r3 r4
  have m : ∀ a : Int, (2 * a).tmod h.toQ.d = 0 ∨ True := fun _ => .inr trivial
  clear m
  have key : (2 * h.toQ.w).tmod h.toQ.d = 0 ∧ (2 * h.toQ.x).tmod h.toQ.d = 0 ∧ (2 * h.toQ.y).tmod h.toQ.d = 0 ∧ (2 * h.toQ.z).tmod h.toQ.d = 0 := by
    rcases Qt.toQ_cases hz with ⟨a, b, c, d, _, e⟩ | e
    · rw [e]; simp only [Int.tmod_one]; exact ⟨trivial, trivial, trivial, trivial⟩
    · rw [e]
      have u : ∀ a : Int, (2 * a).tmod 2 = 0 := fun a => Int.mul_tmod_right _ _
      exact ⟨u _, u _, u _, u _⟩
  unfold Qd.rdok
  rw [r1, r2, r3, r4, key.1, key.2.1, key.2.2.1, key.2.2.2, t _ h1, t _ h2, t _ h3]
  rfl
theorem sq_small {a : Int} (h : a * a ≤ 4000003) : -2001 ≤ a ∧ a ≤ 2001 := by
  constructor
  · apply Int.not_lt.1; intro hc
    have := Int.mul_le_mul (show (2002 : Int) ≤ -a by omega) (show (2002 : Int) ≤ -a by omega) (by omega) (by omega)
    rw [Int.neg_mul_neg] at this
    omega
  · apply Int.not_lt.1; intro hc
    have := Int.mul_le_mul (show (2002 : Int) ≤ a by omega) (show (2002 : Int) ≤ a by omega) (by omega) (by omega)
    omega
theorem okb_toQ {h : Qt} (hz : Qt.Hz h) (hn : h.nrm ≤ 4000003) : h.toQ.okb = true := by
  have hn' : h.w * h.w + h.x * h.x + h.y * h.y + h.z * h.z ≤ 4000003 := hn
  have s0 := Qt.sq_nonneg h.w
  have s1 := Qt.sq_nonneg h.x
  have s2 := Qt.sq_nonneg h.y
  have s3 := Qt.sq_nonneg h.z
  obtain ⟨a0, a1⟩ := sq_small (show h.w * h.w ≤ 4000003 by omega)
  obtain ⟨b0, b1⟩ := sq_small (show h.x * h.x ≤ 4000003 by omega)
  obtain ⟨c0, c1⟩ := sq_small (show h.y * h.y ≤ 4000003 by omega)
  obtain ⟨d0, d1⟩ := sq_small (show h.z * h.z ≤ 4000003 by omega)
  unfold Qd.okb
  rw [decide_eq_true_iff]
  rcases Qt.toQ_cases hz with ⟨a, b, c, d, rfl, e⟩ | e
  · rw [e]; simp only at *; omega
  · rw [e]; simp only; omega
theorem oerr_toQ {h : Qt} (hz : Qt.Hz h) (hn : h.nrm ≤ 4000003) : h.toQ.oerr = 0 := by
  unfold Qd.oerr
  rw [if_pos (okb_toQ hz hn), if_pos (rdok_toQ hz), rdv_toQ hz, if_pos (by omega)]

set_option maxRecDepth 10000 in
set_option maxHeartbeats 2000000 in
theorem punits_any (w : World) :
    Calls Try.prog 33 #[] w fun e w' => ∃ v, e = .returned v ∧ OwnD w' w.heap.size v (unitsE.map Qt.toQ) ∧ Below w.heap.size w w' := by
  have hl : unitsE.length < 1000000 := by decide
  have hi : ∀ q ∈ unitsE, q.InR := fun q hq => Qt.inR_of_nrm (by have := (unitsL_spec (u := q) (by rw [unitsL_eq]; exact hq)).1; omega)
  have HI := Lib.hid hi
  have HL := Lib.hid hl
  clear hi hl
  have hu := units_any
  rw [show sortDn (unA ++ unB) = unitsE from unitsL_eq] at hu
  have HU := Lib.hid hu
  clear hu
  generalize unitsE = E at *
  go_enter Try.func33, Try.ntmps33
  go_wp2_with (first | (go_at_call 78; refine (HU.out _).mono ?_; rintro e w1 ⟨g, cap, rfl, hg, hown, hb1⟩; have HW := Lib.hid hown; clear hown) | (go_at_call 73; refine (quats_own HW.out HL.out HI.out).mono ?_; rintro e w2 ⟨v2, rfl, hown2, hb2⟩; have HW2 := Lib.hid hown2; clear hown2))
  go_ret
  refine ⟨v2, rfl, ?_, hb1.trans (hb2.mono hb1.size)⟩
  have h := HW2.out
  have hs := hb1.size
  rcases h with ⟨e, h | ⟨g, cap, cur, hv, hg, r⟩⟩
  · exact ⟨e, .inl h⟩
  · exact ⟨e, .inr ⟨g, cap, cur, hv, Nat.le_trans hs hg, r⟩⟩

theorem oerrL_one (x : Qd) : oerrL [x] = x.oerr := by
  simp only [oerrL]
  split
  · rename_i h; exact h.symm
  · rfl
set_option maxRecDepth 10000 in
set_option maxHeartbeats 2000000 in
theorem pnorm_ok (x : Qd) (w : World) (hx : x.oerr = 0) :
    Calls Try.prog 36 #[.agg #[.int .i64 x.w, .int .i64 x.x, .int .i64 x.y, .int .i64 x.z, .int .i64 x.d]] w fun e w' => e = .returned (.tuple #[.int .i64 (x.rdv.nrm / 4), .int .i64 0]) ∧ Below w.heap.size w w' := by
  have h : oerrL [x] = 0 := by rw [oerrL_one]; exact hx
  obtain ⟨_, _, hx3, hx4⟩ := Opn.of hx
  have CN := Lib.hid (fun w => hnorm_any x.rdv (by omega) w)
  have HO := Lib.hid (fun W m hm => open_ok1 x W h (m := m) hm)
  generalize x.rdv.nrm / 4 = N at *
  generalize x.rdv = X at *
  clear hx hx3 hx4 h
  go_enter Try.func36, Try.ntmps36
  go_wp2_with (first | (go_at_call 64; refine (HO.out _ _ (by simp)).mono ?_; rintro e w1 ⟨g, cap, rfl, ⟨hg, ⟨c0, c1, c2, c3⟩⟩, hb1⟩; obtain ⟨g1, rfl⟩ := more_of_below hb1; clear hb1; simp only [size_more_eq, World.size_alloc] at hg) | (go_at_call 79; with_reducible refine (CN.out _).mono ?_; rintro e w2 ⟨rfl, hb2⟩; obtain ⟨g2, rfl⟩ := more_of_below hb2; clear hb2))
  refine bodyPost_ret (v := .tuple #[.int .i64 N, .int .i64 0]) (by simp [results, Try.results36, go_sem]) rfl ⟨rfl, by (repeat (first | with_reducible assumption | with_reducible exact Below.refl _ _ | with_reducible refine Below.drewN ?_ _ | with_reducible refine Below.drew ?_ | with_reducible refine Below.alloc ?_ (by first | omega | (simp; done) | (simp; omega)) _ | with_reducible refine Below.setCell ?_ (by first | omega | (simp; done) | (simp; omega)) _ | with_reducible refine below_more _ _ ?_ (by first | omega | (simp; done) | (simp; omega))))⟩
set_option maxRecDepth 10000 in
set_option maxHeartbeats 2000000 in
theorem ptimes_err (x y : Qd) (w : World) (h : oerrL [x, y] ≠ 0) :
    Calls Try.prog 35 #[.agg #[.int .i64 x.w, .int .i64 x.x, .int .i64 x.y, .int .i64 x.z, .int .i64 x.d], .agg #[.int .i64 y.w, .int .i64 y.x, .int .i64 y.y, .int .i64 y.z, .int .i64 y.d]] w fun e w' => e = .returned (.tuple #[.agg #[.int .i64 0, .int .i64 0, .int .i64 0, .int .i64 0, .int .i64 0], .int .i64 (oerrL [x, y])]) ∧ Below w.heap.size w w' := by
  go_enter Try.func35, Try.ntmps35
  go_wp2_with (first | (go_at_call 64; with_reducible refine (open_err2 x y _ h (by simp)).mono ?_; rintro e w1 ⟨rfl, hb1⟩; obtain ⟨g1, rfl⟩ := more_of_below hb1; clear hb1))
  refine bodyPost_ret (v := .tuple #[.agg #[.int .i64 0, .int .i64 0, .int .i64 0, .int .i64 0, .int .i64 0], .int .i64 (oerrL [x, y])]) (by simp [results, Try.results35, go_sem]) rfl ⟨rfl, by (repeat (first | with_reducible assumption | with_reducible exact Below.refl _ _ | with_reducible refine Below.drewN ?_ _ | with_reducible refine Below.drew ?_ | with_reducible refine Below.alloc ?_ (by first | omega | (simp; done) | (simp; omega)) _ | with_reducible refine Below.setCell ?_ (by first | omega | (simp; done) | (simp; omega)) _ | with_reducible refine below_more _ _ ?_ (by first | omega | (simp; done) | (simp; omega))))⟩
set_option maxRecDepth 10000 in
set_option maxHeartbeats 4000000 in
theorem ptimes_large (x y : Qd) (w : World) (hx : x.oerr = 0) (hy : y.oerr = 0) (hl : 1000000 < x.rdv.nrm / 4 * (y.rdv.nrm / 4)) :
    Calls Try.prog 35 #[.agg #[.int .i64 x.w, .int .i64 x.x, .int .i64 x.y, .int .i64 x.z, .int .i64 x.d], .agg #[.int .i64 y.w, .int .i64 y.x, .int .i64 y.y, .int .i64 y.z, .int .i64 y.d]] w fun e w' => e = .returned (.tuple #[.agg #[.int .i64 0, .int .i64 0, .int .i64 0, .int .i64 0, .int .i64 0], .int .i64 8]) ∧ Below w.heap.size w w' := by
  have h : oerrL [x, y] = 0 := by rw [oerrL_two, if_pos hx]; exact hy
  obtain ⟨_, _, _, hx4⟩ := Opn.of hx
  obtain ⟨_, _, _, hy4⟩ := Opn.of hy
  have CX := Lib.hid (fun w => hnorm_any x.rdv (by omega) w)
  have CY := Lib.hid (fun w => hnorm_any y.rdv (by omega) w)
  have p1 : x.rdv.nrm / 4 * (y.rdv.nrm / 4) ≤ 1000000 * 1000000 := Int.mul_le_mul (by omega) (by omega) (by have := y.rdv.nrm_nonneg; omega) (by omega)
  have HO := Lib.hid (fun W m hm => open_ok2 x y W h (m := m) hm)
  generalize x.rdv.nrm / 4 = N at *
  generalize y.rdv.nrm / 4 = M at *
  generalize x.rdv = X at *
  generalize y.rdv = Y at *
  clear hx hy hx4 hy4 h
  go_enter Try.func35, Try.ntmps35
  go_wp2_with (first | (go_at_call 64; refine (HO.out _ _ (by simp)).mono ?_; rintro e w1 ⟨g, cap, rfl, ⟨hg, ⟨c0, c1, c2, c3⟩, ⟨d0, d1, d2, d3⟩⟩, hb1⟩; obtain ⟨g1, rfl⟩ := more_of_below hb1; clear hb1; simp only [size_more_eq, World.size_alloc] at hg))
  (refine wp_region_quiet (C := Ext _) (by kernel_rfl) (by kernel_rfl) (Ext.start _) ?_; simp only []; (repeat (refine wpQuiet_step (fun K hK => ?_); go_simp; (try go_bits); apply Exists.intro; refine ⟨fun w' hw' => ?_, hK _ ?_⟩; (focus (first | with_reducible exact rfl | (go_at_call 79; (first | with_reducible exact Ext.call hw' (CX.out _) | with_reducible exact Ext.call hw' (CY.out _))) | (obtain ⟨gx, rfl⟩ := more_of_below (Ext.below hw'); go_simp; exact rfl))); clear hK K)); refine wpQuiet_nil ?_; intro w2 hw2; have hb2 := Ext.below hw2; clear hw2; obtain ⟨g2, rfl⟩ := more_of_below hb2; clear hb2)
  go_wp2
  refine bodyPost_ret (v := .tuple #[.agg #[.int .i64 0, .int .i64 0, .int .i64 0, .int .i64 0, .int .i64 0], .int .i64 8]) (by simp [results, Try.results35, go_sem]) rfl ⟨rfl, by (repeat (first | with_reducible assumption | with_reducible exact Below.refl _ _ | with_reducible refine Below.drewN ?_ _ | with_reducible refine Below.drew ?_ | with_reducible refine Below.alloc ?_ (by first | omega | (simp; done) | (simp; omega)) _ | with_reducible refine Below.setCell ?_ (by first | omega | (simp; done) | (simp; omega)) _ | with_reducible refine below_more _ _ ?_ (by first | omega | (simp; done) | (simp; omega))))⟩
set_option maxRecDepth 10000 in
set_option maxHeartbeats 4000000 in
theorem ptimes_ok (x y : Qd) (w : World) (hx : x.oerr = 0) (hy : y.oerr = 0) (hl : ¬ 1000000 < x.rdv.nrm / 4 * (y.rdv.nrm / 4)) :
    Calls Try.prog 35 #[.agg #[.int .i64 x.w, .int .i64 x.x, .int .i64 x.y, .int .i64 x.z, .int .i64 x.d], .agg #[.int .i64 y.w, .int .i64 y.x, .int .i64 y.y, .int .i64 y.z, .int .i64 y.d]] w fun e w' => e = .returned (.tuple #[.agg #[.int .i64 ((Qt.hm x.rdv y.rdv).toQ).w, .int .i64 ((Qt.hm x.rdv y.rdv).toQ).x, .int .i64 ((Qt.hm x.rdv y.rdv).toQ).y, .int .i64 ((Qt.hm x.rdv y.rdv).toQ).z, .int .i64 ((Qt.hm x.rdv y.rdv).toQ).d], .int .i64 0]) ∧ Below w.heap.size w w' := by
  have h : oerrL [x, y] = 0 := by rw [oerrL_two, if_pos hx]; exact hy
  obtain ⟨_, _, hx3, hx4⟩ := Opn.of hx
  obtain ⟨_, _, hy3, hy4⟩ := Opn.of hy
  have CX := Lib.hid (fun w => hnorm_any x.rdv (by omega) w)
  have CY := Lib.hid (fun w => hnorm_any y.rdv (by omega) w)
  have n0 := x.rdv.nrm_nonneg
  have n1 := y.rdv.nrm_nonneg
  have p0 : x.rdv.nrm * y.rdv.nrm ≤ 4000000 * 4000000 := Int.mul_le_mul hx4 hy4 n1 (by omega)
  have p1 : 0 ≤ x.rdv.nrm / 4 * (y.rdv.nrm / 4) := Int.mul_nonneg (by omega) (by omega)
  have hm1 : (x.rdv.mul y.rdv).InR := Qt.inR_of_nrm (by rw [Qt.nrm_mul]; omega)
  have hm2 : (Qt.hm x.rdv y.rdv).InR := Qt.inR_of_nrm (by have := Qt.hm_nrm hx3 hy3; omega)
  have ct := htimes_in x.rdv y.rdv hm1
  rw [Qt.hm_eq] at ct
  have CT := Lib.hid ct
  have CQ := Lib.hid (fun w => quat_in (Qt.hm x.rdv y.rdv) hm2 w)
  have HO := Lib.hid (fun W m hm => open_ok2 x y W h (m := m) hm)
  clear ct hm1 hm2 p0 n0 n1
  generalize x.rdv.nrm / 4 = N at *
  generalize y.rdv.nrm / 4 = M at *
  generalize Qt.hm x.rdv y.rdv = G at *
  generalize G.toQ = Q at *
  generalize x.rdv = X at *
  generalize y.rdv = Y at *
  clear hx hy hx3 hx4 hy3 hy4 h
  go_enter Try.func35, Try.ntmps35
  go_wp2_with (first | (go_at_call 64; refine (HO.out _ _ (by simp)).mono ?_; rintro e w1 ⟨g, cap, rfl, ⟨hg, ⟨c0, c1, c2, c3⟩, ⟨d0, d1, d2, d3⟩⟩, hb1⟩; obtain ⟨g1, rfl⟩ := more_of_below hb1; clear hb1; simp only [size_more_eq, World.size_alloc] at hg))
  (refine wp_region_quiet (C := Ext _) (by kernel_rfl) (by kernel_rfl) (Ext.start _) ?_; simp only []; (repeat (refine wpQuiet_step (fun K hK => ?_); go_simp; (try go_bits); apply Exists.intro; refine ⟨fun w' hw' => ?_, hK _ ?_⟩; (focus (first | with_reducible exact rfl | (go_at_call 79; (first | with_reducible exact Ext.call hw' (CX.out _) | with_reducible exact Ext.call hw' (CY.out _))) | (obtain ⟨gx, rfl⟩ := more_of_below (Ext.below hw'); go_simp; exact rfl))); clear hK K)); refine wpQuiet_nil ?_; intro w2 hw2; have hb2 := Ext.below hw2; clear hw2; obtain ⟨g2, rfl⟩ := more_of_below hb2; clear hb2)
  go_wp2_with fail
  (refine wp_region_calm_tail 8 (Ext _) (by kernel_rfl) (by kernel_rfl) (Ext.start _) ?_; simp only [List.take_succ_cons, List.take_zero, List.drop_succ_cons, List.drop_zero]; (repeat (refine wpQuiet_step (fun K hK => ?_); go_simp; (try go_bits); apply Exists.intro; refine ⟨fun w' hw' => ?_, hK _ ?_⟩; (focus (first | with_reducible exact rfl | (go_at_call 80; (with_reducible exact Ext.call hw' (CT.out _))) | (go_at_call 67; (with_reducible exact Ext.call hw' (CQ.out _))) | (obtain ⟨gx, rfl⟩ := more_of_below (Ext.below hw'); go_simp; exact rfl))); clear hK K)); refine wpQuiet_nil ?_; intro w3 hw3; have hb3 := Ext.below hw3; clear hw3; obtain ⟨g3, rfl⟩ := more_of_below hb3; clear hb3)
  go_wp2
  refine bodyPost_ret (v := .tuple #[.agg #[.int .i64 Q.w, .int .i64 Q.x, .int .i64 Q.y, .int .i64 Q.z, .int .i64 Q.d], .int .i64 0]) (by simp [results, Try.results35, go_sem]) rfl ⟨rfl, by (repeat (first | with_reducible assumption | with_reducible exact Below.refl _ _ | with_reducible refine Below.drewN ?_ _ | with_reducible refine Below.drew ?_ | with_reducible refine Below.alloc ?_ (by first | omega | (simp; done) | (simp; omega)) _ | with_reducible refine Below.setCell ?_ (by first | omega | (simp; done) | (simp; omega)) _ | with_reducible refine below_more _ _ ?_ (by first | omega | (simp; done) | (simp; omega))))⟩
end Go.Proofs.Ythajaabgcbjfkaa
