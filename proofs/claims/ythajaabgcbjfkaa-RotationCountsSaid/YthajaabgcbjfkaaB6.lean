/- Contracts: Units, Norm, Times; an element read back. Contracts: Exchange, of the program and of the reference. Printed by gen7.py. Contracts: Exchange where it answers; what both sides compute. Printed by gen8.py. -/
import Derived.Test.YthajaabgcbjfkaaB3
import Derived.Deep.RegionWith
import Derived.Deep.DrawnRows
import Derived.Deep.DeepCutAuto
import Derived.Test.YthajaabgcbjfkaaP3
namespace Go.Proofs.Ythajaabgcbjfkaa
open Go.RowKit

theorem Qt.toQ_cases {h : Qt} (hz : Qt.Hz h) : (∃ a b c d : Int, h = ⟨2 * a, 2 * b, 2 * c, 2 * d⟩ ∧ h.toQ = ⟨a, b, c, d, 1⟩) ∨ h.toQ = ⟨h.w, h.x, h.y, h.z, 2⟩ := by
  obtain ⟨h1, h2, h3⟩ := (Qt.hz_iff h).1 hz
  by_cases he : h.w % 2 = 0
  · refine .inl ⟨h.w.tdiv 2, h.x.tdiv 2, h.y.tdiv 2, h.z.tdiv 2, ?_, by unfold Qt.toQ; rw [if_pos he]⟩
    have t : ∀ a : Int, a % 2 = 0 → a = 2 * a.tdiv 2 := fun a ha => by
      obtain ⟨b, rfl⟩ : ∃ b, a = 2 * b := ⟨a / 2, by omega⟩
      rw [Int.mul_tdiv_cancel_left _ (by omega)]
    cases h
    simp only at *
    rw [← t _ he, ← t _ (by omega), ← t _ (by omega), ← t _ (by omega)]
  · exact .inr (by unfold Qt.toQ; rw [if_neg he])
theorem rdv_toQ {h : Qt} (hz : Qt.Hz h) : h.toQ.rdv = h := by
  rcases Qt.toQ_cases hz with ⟨a, b, c, d, rfl, e⟩ | e
  · rw [e]; simp only [Qd.rdv, Int.tdiv_one]
  · rw [e]
    have t : ∀ a : Int, (2 * a).tdiv 2 = a := fun a => Int.mul_tdiv_cancel_left _ (by omega)
    simp only [Qd.rdv, t]
theorem rdok_toQ {h : Qt} (hz : Qt.Hz h) : h.toQ.rdok = true := by
  have hr := rdv_toQ hz
  obtain ⟨h1, h2, h3⟩ := (Qt.hz_iff h).1 hz
  have t : ∀ a : Int, a % 2 = 0 → (a.tmod 2 != 0) = false := fun a ha => by rw [bne_eq_false_iff_eq, tmod2]; exact ha
  have r1 := congrArg Qt.w hr
  have r2 := congrArg Qt.x hr
  have r3 := congrArg Qt.y hr
  have r4 := congrArg Qt.z hr
  simp only [Qd.rdv] at r1 r2 r3 r4
  have m : ∀ a : Int, (2 * a).tmod h.toQ.d = 0 ∨ True := fun _ => .inr trivial
  clear m
  have key : (2 * h.toQ.w).tmod h.toQ.d = 0 ∧ (2 * h.toQ.x).tmod h.toQ.d = 0 ∧ (2 * h.toQ.y).tmod h.toQ.d = 0 ∧ (2 * h.toQ.z).tmod h.toQ.d = 0 := by
    rcases Qt.toQ_cases hz with ⟨a, b, c, d, _, e⟩ | e
    · rw [e]; simp only [Int.tmod_one]; exact ⟨trivial, trivial, trivial, trivial⟩
    · rw [e]
      have u : ∀ a : Int, (2 * a).tmod 2 = 0 := fun a => Int.mul_tmod_right _ _
      exact ⟨u _, u _, u _, u _⟩
  unfold Qd.rdok
  rw [r1, r2, r3, r4, key.1, key.2.1, key.2.2.1, key.2.2.2, t _ h1, t _ h2, t _ h3]
  rfl
theorem sq_small {a : Int} (h : a * a ≤ 4000003) : -2001 ≤ a ∧ a ≤ 2001 := by
  constructor
  · apply Int.not_lt.1; intro hc
    have := Int.mul_le_mul (show (2002 : Int) ≤ -a by omega) (show (2002 : Int) ≤ -a by omega) (by omega) (by omega)
    rw [Int.neg_mul_neg] at this
    omega
  · apply Int.not_lt.1; intro hc
    have := Int.mul_le_mul (show (2002 : Int) ≤ a by omega) (show (2002 : Int) ≤ a by omega) (by omega) (by omega)
    omega
theorem okb_toQ {h : Qt} (hz : Qt.Hz h) (hn : h.nrm ≤ 4000003) : h.toQ.okb = true := by
  have hn' : h.w * h.w + h.x * h.x + h.y * h.y + h.z * h.z ≤ 4000003 := hn
  have s0 := Qt.sq_nonneg h.w
  have s1 := Qt.sq_nonneg h.x
  have s2 := Qt.sq_nonneg h.y
  have s3 := Qt.sq_nonneg h.z
  obtain ⟨a0, a1⟩ := sq_small (show h.w * h.w ≤ 4000003 by omega)
  obtain ⟨b0, b1⟩ := sq_small (show h.x * h.x ≤ 4000003 by omega)
  obtain ⟨c0, c1⟩ := sq_small (show h.y * h.y ≤ 4000003 by omega)
  obtain ⟨d0, d1⟩ := sq_small (show h.z * h.z ≤ 4000003 by omega)
  unfold Qd.okb
  rw [decide_eq_true_iff]
  rcases Qt.toQ_cases hz with ⟨a, b, c, d, rfl, e⟩ | e
  · rw [e]; simp only at *; omega
  · rw [e]; simp only; omega
theorem oerr_toQ {h : Qt} (hz : Qt.Hz h) (hn : h.nrm ≤ 4000003) : h.toQ.oerr = 0 := by
  unfold Qd.oerr
  rw [if_pos (okb_toQ hz hn), if_pos (rdok_toQ hz), rdv_toQ hz, if_pos (by omega)]

set_option maxRecDepth 10000 in
set_option maxHeartbeats 2000000 in
theorem punits_any (w : World) :
    Calls Try.prog 33 #[] w fun e w' => ∃ v, e = .returned v ∧ OwnD w' w.heap.size v (unitsE.map Qt.toQ) ∧ Below w.heap.size w w' := by
  have hl : unitsE.length < 1000000 := by decide
  have hi : ∀ q ∈ unitsE, q.InR := fun q hq => Qt.inR_of_nrm (by have := (unitsL_spec (u := q) (by rw [unitsL_eq]; exact hq)).1; omega)
  have HI := Lib.hid hi
  have HL := Lib.hid hl
  clear hi hl
  have hu := units_any
  rw [show sortDn (unA ++ unB) = unitsE from unitsL_eq] at hu
  have HU := Lib.hid hu
  clear hu
  generalize unitsE = E at *
  go_enter Try.func33, Try.ntmps33
  go_wp2_with (first | (go_at_call 78; refine (HU.out _).mono ?_; rintro e w1 ⟨g, cap, rfl, hg, hown, hb1⟩; have HW := Lib.hid hown; clear hown) | (go_at_call 73; refine (quats_own HW.out HL.out HI.out).mono ?_; rintro e w2 ⟨v2, rfl, hown2, hb2⟩; have HW2 := Lib.hid hown2; clear hown2))
  go_ret
  refine ⟨v2, rfl, ?_, hb1.trans (hb2.mono hb1.size)⟩
  have h := HW2.out
  have hs := hb1.size
  rcases h with ⟨e, h | ⟨g, cap, cur, hv, hg, r⟩⟩
  · exact ⟨e, .inl h⟩
  · exact ⟨e, .inr ⟨g, cap, cur, hv, Nat.le_trans hs hg, r⟩⟩

theorem oerrL_one (x : Qd) : oerrL [x] = x.oerr := by
  simp only [oerrL]
  split
  · rename_i h; exact h.symm
  · rfl
set_option maxRecDepth 10000 in
set_option maxHeartbeats 2000000 in
theorem pnorm_ok (x : Qd) (w : World) (hx : x.oerr = 0) :
    Calls Try.prog 36 #[.agg #[.int .i64 x.w, .int .i64 x.x, .int .i64 x.y, .int .i64 x.z, .int .i64 x.d]] w fun e w' => e = .returned (.tuple #[.int .i64 (x.rdv.nrm / 4), .int .i64 0]) ∧ Below w.heap.size w w' := by
  have h : oerrL [x] = 0 := by rw [oerrL_one]; exact hx
  obtain ⟨_, _, hx3, hx4⟩ := Opn.of hx
  have CN := Lib.hid (fun w => hnorm_any x.rdv (by omega) w)
  have HO := Lib.hid (fun W m hm => open_ok1 x W h (m := m) hm)
  generalize x.rdv.nrm / 4 = N at *
  generalize x.rdv = X at *
  clear hx hx3 hx4 h
  go_enter Try.func36, Try.ntmps36
  go_wp2_with (first | (go_at_call 64; refine (HO.out _ _ (by simp)).mono ?_; rintro e w1 ⟨g, cap, rfl, ⟨hg, ⟨c0, c1, c2, c3⟩⟩, hb1⟩; obtain ⟨g1, rfl⟩ := more_of_below hb1; clear hb1; simp only [size_more_eq, World.size_alloc] at hg) | (go_at_call 79; with_reducible refine (CN.out _).mono ?_; rintro e w2 ⟨rfl, hb2⟩; obtain ⟨g2, rfl⟩ := more_of_below hb2; clear hb2))
  refine bodyPost_ret (v := .tuple #[.int .i64 N, .int .i64 0]) (by simp [results, Try.results36, go_sem]) rfl ⟨rfl, by (repeat (first | with_reducible assumption | with_reducible exact Below.refl _ _ | with_reducible refine Below.drewN ?_ _ | with_reducible refine Below.drew ?_ | with_reducible refine Below.alloc ?_ (by first | omega | (simp; done) | (simp; omega)) _ | with_reducible refine Below.setCell ?_ (by first | omega | (simp; done) | (simp; omega)) _ | with_reducible refine below_more _ _ ?_ (by first | omega | (simp; done) | (simp; omega))))⟩
set_option maxRecDepth 10000 in
set_option maxHeartbeats 2000000 in
theorem ptimes_err (x y : Qd) (w : World) (h : oerrL [x, y] ≠ 0) :
    Calls Try.prog 35 #[.agg #[.int .i64 x.w, .int .i64 x.x, .int .i64 x.y, .int .i64 x.z, .int .i64 x.d], .agg #[.int .i64 y.w, .int .i64 y.x, .int .i64 y.y, .int .i64 y.z, .int .i64 y.d]] w fun e w' => e = .returned (.tuple #[.agg #[.int .i64 0, .int .i64 0, .int .i64 0, .int .i64 0, .int .i64 0], .int .i64 (oerrL [x, y])]) ∧ Below w.heap.size w w' := by
  go_enter Try.func35, Try.ntmps35
  go_wp2_with (first | (go_at_call 64; with_reducible refine (open_err2 x y _ h (by simp)).mono ?_; rintro e w1 ⟨rfl, hb1⟩; obtain ⟨g1, rfl⟩ := more_of_below hb1; clear hb1))
  refine bodyPost_ret (v := .tuple #[.agg #[.int .i64 0, .int .i64 0, .int .i64 0, .int .i64 0, .int .i64 0], .int .i64 (oerrL [x, y])]) (by simp [results, Try.results35, go_sem]) rfl ⟨rfl, by (repeat (first | with_reducible assumption | with_reducible exact Below.refl _ _ | with_reducible refine Below.drewN ?_ _ | with_reducible refine Below.drew ?_ | with_reducible refine Below.alloc ?_ (by first | omega | (simp; done) | (simp; omega)) _ | with_reducible refine Below.setCell ?_ (by first | omega | (simp; done) | (simp; omega)) _ | with_reducible refine below_more _ _ ?_ (by first | omega | (simp; done) | (simp; omega))))⟩
set_option maxRecDepth 10000 in
set_option maxHeartbeats 4000000 in
theorem ptimes_large (x y : Qd) (w : World) (hx : x.oerr = 0) (hy : y.oerr = 0) (hl : 1000000 < x.rdv.nrm / 4 * (y.rdv.nrm / 4)) :
    Calls Try.prog 35 #[.agg #[.int .i64 x.w, .int .i64 x.x, .int .i64 x.y, .int .i64 x.z, .int .i64 x.d], .agg #[.int .i64 y.w, .int .i64 y.x, .int .i64 y.y, .int .i64 y.z, .int .i64 y.d]] w fun e w' => e = .returned (.tuple #[.agg #[.int .i64 0, .int .i64 0, .int .i64 0, .int .i64 0, .int .i64 0], .int .i64 8]) ∧ Below w.heap.size w w' := by
  have h : oerrL [x, y] = 0 := by rw [oerrL_two, if_pos hx]; exact hy
  obtain ⟨_, _, _, hx4⟩ := Opn.of hx
  obtain ⟨_, _, _, hy4⟩ := Opn.of hy
  have CX := Lib.hid (fun w => hnorm_any x.rdv (by omega) w)
  have CY := Lib.hid (fun w => hnorm_any y.rdv (by omega) w)
  have p1 : x.rdv.nrm / 4 * (y.rdv.nrm / 4) ≤ 1000000 * 1000000 := Int.mul_le_mul (by omega) (by omega) (by have := y.rdv.nrm_nonneg; omega) (by omega)
  have HO := Lib.hid (fun W m hm => open_ok2 x y W h (m := m) hm)
  generalize x.rdv.nrm / 4 = N at *
  generalize y.rdv.nrm / 4 = M at *
  generalize x.rdv = X at *
  generalize y.rdv = Y at *
  clear hx hy hx4 hy4 h
  go_enter Try.func35, Try.ntmps35
  go_wp2_with (first | (go_at_call 64; refine (HO.out _ _ (by simp)).mono ?_; rintro e w1 ⟨g, cap, rfl, ⟨hg, ⟨c0, c1, c2, c3⟩, ⟨d0, d1, d2, d3⟩⟩, hb1⟩; obtain ⟨g1, rfl⟩ := more_of_below hb1; clear hb1; simp only [size_more_eq, World.size_alloc] at hg))
  (refine wp_region_quiet (C := Ext _) (by kernel_rfl) (by kernel_rfl) (Ext.start _) ?_; simp only []; (repeat (refine wpQuiet_step (fun K hK => ?_); go_simp; (try go_bits); apply Exists.intro; refine ⟨fun w' hw' => ?_, hK _ ?_⟩; (focus (first | with_reducible exact rfl | (go_at_call 79; (first | with_reducible exact Ext.call hw' (CX.out _) | with_reducible exact Ext.call hw' (CY.out _))) | (obtain ⟨gx, rfl⟩ := more_of_below (Ext.below hw'); go_simp; exact rfl))); clear hK K)); refine wpQuiet_nil ?_; intro w2 hw2; have hb2 := Ext.below hw2; clear hw2; obtain ⟨g2, rfl⟩ := more_of_below hb2; clear hb2)
  go_wp2
  refine bodyPost_ret (v := .tuple #[.agg #[.int .i64 0, .int .i64 0, .int .i64 0, .int .i64 0, .int .i64 0], .int .i64 8]) (by simp [results, Try.results35, go_sem]) rfl ⟨rfl, by (repeat (first | with_reducible assumption | with_reducible exact Below.refl _ _ | with_reducible refine Below.drewN ?_ _ | with_reducible refine Below.drew ?_ | with_reducible refine Below.alloc ?_ (by first | omega | (simp; done) | (simp; omega)) _ | with_reducible refine Below.setCell ?_ (by first | omega | (simp; done) | (simp; omega)) _ | with_reducible refine below_more _ _ ?_ (by first | omega | (simp; done) | (simp; omega))))⟩
set_option maxRecDepth 10000 in
set_option maxHeartbeats 4000000 in
theorem ptimes_ok (x y : Qd) (w : World) (hx : x.oerr = 0) (hy : y.oerr = 0) (hl : ¬ 1000000 < x.rdv.nrm / 4 * (y.rdv.nrm / 4)) :
    Calls Try.prog 35 #[.agg #[.int .i64 x.w, .int .i64 x.x, .int .i64 x.y, .int .i64 x.z, .int .i64 x.d], .agg #[.int .i64 y.w, .int .i64 y.x, .int .i64 y.y, .int .i64 y.z, .int .i64 y.d]] w fun e w' => e = .returned (.tuple #[.agg #[.int .i64 ((Qt.hm x.rdv y.rdv).toQ).w, .int .i64 ((Qt.hm x.rdv y.rdv).toQ).x, .int .i64 ((Qt.hm x.rdv y.rdv).toQ).y, .int .i64 ((Qt.hm x.rdv y.rdv).toQ).z, .int .i64 ((Qt.hm x.rdv y.rdv).toQ).d], .int .i64 0]) ∧ Below w.heap.size w w' := by
  have h : oerrL [x, y] = 0 := by rw [oerrL_two, if_pos hx]; exact hy
  obtain ⟨_, _, hx3, hx4⟩ := Opn.of hx
  obtain ⟨_, _, hy3, hy4⟩ := Opn.of hy
  have CX := Lib.hid (fun w => hnorm_any x.rdv (by omega) w)
  have CY := Lib.hid (fun w => hnorm_any y.rdv (by omega) w)
  have n0 := x.rdv.nrm_nonneg
  have n1 := y.rdv.nrm_nonneg
  have p0 : x.rdv.nrm * y.rdv.nrm ≤ 4000000 * 4000000 := Int.mul_le_mul hx4 hy4 n1 (by omega)
  have p1 : 0 ≤ x.rdv.nrm / 4 * (y.rdv.nrm / 4) := Int.mul_nonneg (by omega) (by omega)
  have hm1 : (x.rdv.mul y.rdv).InR := Qt.inR_of_nrm (by rw [Qt.nrm_mul]; omega)
  have hm2 : (Qt.hm x.rdv y.rdv).InR := Qt.inR_of_nrm (by have := Qt.hm_nrm hx3 hy3; omega)
  have ct := htimes_in x.rdv y.rdv hm1
  rw [Qt.hm_eq] at ct
  have CT := Lib.hid ct
  have CQ := Lib.hid (fun w => quat_in (Qt.hm x.rdv y.rdv) hm2 w)
  have HO := Lib.hid (fun W m hm => open_ok2 x y W h (m := m) hm)
  clear ct hm1 hm2 p0 n0 n1
  generalize x.rdv.nrm / 4 = N at *
  generalize y.rdv.nrm / 4 = M at *
  generalize Qt.hm x.rdv y.rdv = G at *
  generalize G.toQ = Q at *
  generalize x.rdv = X at *
  generalize y.rdv = Y at *
  clear hx hy hx3 hx4 hy3 hy4 h
  go_enter Try.func35, Try.ntmps35
  go_wp2_with (first | (go_at_call 64; refine (HO.out _ _ (by simp)).mono ?_; rintro e w1 ⟨g, cap, rfl, ⟨hg, ⟨c0, c1, c2, c3⟩, ⟨d0, d1, d2, d3⟩⟩, hb1⟩; obtain ⟨g1, rfl⟩ := more_of_below hb1; clear hb1; simp only [size_more_eq, World.size_alloc] at hg))
  (refine wp_region_quiet (C := Ext _) (by kernel_rfl) (by kernel_rfl) (Ext.start _) ?_; simp only []; (repeat (refine wpQuiet_step (fun K hK => ?_); go_simp; (try go_bits); apply Exists.intro; refine ⟨fun w' hw' => ?_, hK _ ?_⟩; (focus (first | with_reducible exact rfl | (go_at_call 79; (first | with_reducible exact Ext.call hw' (CX.out _) | with_reducible exact Ext.call hw' (CY.out _))) | (obtain ⟨gx, rfl⟩ := more_of_below (Ext.below hw'); go_simp; exact rfl))); clear hK K)); refine wpQuiet_nil ?_; intro w2 hw2; have hb2 := Ext.below hw2; clear hw2; obtain ⟨g2, rfl⟩ := more_of_below hb2; clear hb2)
  go_wp2_with fail
  (refine wp_region_calm_tail 8 (Ext _) (by kernel_rfl) (by kernel_rfl) (Ext.start _) ?_; simp only [List.take_succ_cons, List.take_zero, List.drop_succ_cons, List.drop_zero]; (repeat (refine wpQuiet_step (fun K hK => ?_); go_simp; (try go_bits); apply Exists.intro; refine ⟨fun w' hw' => ?_, hK _ ?_⟩; (focus (first | with_reducible exact rfl | (go_at_call 80; (with_reducible exact Ext.call hw' (CT.out _))) | (go_at_call 67; (with_reducible exact Ext.call hw' (CQ.out _))) | (obtain ⟨gx, rfl⟩ := more_of_below (Ext.below hw'); go_simp; exact rfl))); clear hK K)); refine wpQuiet_nil ?_; intro w3 hw3; have hb3 := Ext.below hw3; clear hw3; obtain ⟨g3, rfl⟩ := more_of_below hb3; clear hb3)
  go_wp2
  refine bodyPost_ret (v := .tuple #[.agg #[.int .i64 Q.w, .int .i64 Q.x, .int .i64 Q.y, .int .i64 Q.z, .int .i64 Q.d], .int .i64 0]) (by simp [results, Try.results35, go_sem]) rfl ⟨rfl, by (repeat (first | with_reducible assumption | with_reducible exact Below.refl _ _ | with_reducible refine Below.drewN ?_ _ | with_reducible refine Below.drew ?_ | with_reducible refine Below.alloc ?_ (by first | omega | (simp; done) | (simp; omega)) _ | with_reducible refine Below.setCell ?_ (by first | omega | (simp; done) | (simp; omega)) _ | with_reducible refine below_more _ _ ?_ (by first | omega | (simp; done) | (simp; omega))))⟩
end Go.Proofs.Ythajaabgcbjfkaa

namespace Go.Proofs.Ythajaabgcbjfkaa
open Go.RowKit
attribute [local go_sem ↓] Go.wp_at_zero Go.wp_at_succ

theorem gcd2_in (a b : Int) (ha : a.natAbs ≤ 4000000000000000000) (hb : b.natAbs ≤ 4000000000000000000) (w : World) (g cap : Nat) (hg : g < w.heap.size) (c0 : w.cell? ⟨g, 0, none⟩ = some (.int .i64 a)) (c1 : w.cell? ⟨g, 1, none⟩ = some (.int .i64 b)) :
    Calls Try.prog 81 #[.slice (some ⟨g, 0, none⟩) 2 cap] w fun e w' => e = .returned (.int .i64 (((gcdL [a, b] : Nat) : Int))) ∧ Below w.heap.size w w' := by
  refine gcd_any [a, b] g 0 cap w (by simp) (fun k x hx => ?_) hg (fun x hx => ?_)
  · rw [Nat.zero_add]
    match k with
    | 0 => simp only [List.getElem?_cons_zero, Option.some.injEq] at hx; subst hx; exact c0
    | 1 => simp only [List.getElem?_cons_succ, List.getElem?_cons_zero, Option.some.injEq] at hx; subst hx; exact c1
    | k + 2 => simp at hx
  · simp only [List.mem_cons, List.not_mem_nil, or_false] at hx
    rcases hx with rfl | rfl <;> assumption

set_option maxRecDepth 10000 in
set_option maxHeartbeats 4000000 in
theorem pexch_err (x y : Qd) (w : World) (h : oerrL [x, y] ≠ 0) :
    Calls Try.prog 37 #[.agg #[.int .i64 x.w, .int .i64 x.x, .int .i64 x.y, .int .i64 x.z, .int .i64 x.d], .agg #[.int .i64 y.w, .int .i64 y.x, .int .i64 y.y, .int .i64 y.z, .int .i64 y.d]] w fun e w' => e = .returned (.tuple #[.agg #[.int .i64 0, .int .i64 0, .int .i64 0, .int .i64 0, .int .i64 0], .agg #[.int .i64 0, .int .i64 0, .int .i64 0, .int .i64 0, .int .i64 0], .int .i64 (oerrL [x, y])]) ∧ Below w.heap.size w w' := by
  go_enter Try.func37, Try.ntmps37
  go_wp2_with (first | (go_at_call 64; with_reducible refine (open_err2 x y _ h (by simp)).mono ?_; rintro e w1 ⟨rfl, hb1⟩; obtain ⟨g1, rfl⟩ := more_of_below hb1; clear hb1))
  refine bodyPost_ret (v := .tuple #[.agg #[.int .i64 0, .int .i64 0, .int .i64 0, .int .i64 0, .int .i64 0], .agg #[.int .i64 0, .int .i64 0, .int .i64 0, .int .i64 0, .int .i64 0], .int .i64 (oerrL [x, y])]) (by simp [results, Try.results37, go_sem]) rfl ⟨rfl, by (repeat (first | with_reducible assumption | with_reducible exact Below.refl _ _ | with_reducible refine Below.drewN ?_ _ | with_reducible refine Below.drew ?_ | with_reducible refine Below.alloc ?_ (by first | omega | (simp; done) | (simp; omega)) _ | with_reducible refine Below.setCell ?_ (by first | omega | (simp; done) | (simp; omega)) _ | with_reducible refine below_more _ _ ?_ (by first | omega | (simp; done) | (simp; omega))))⟩
set_option maxRecDepth 10000 in
set_option maxHeartbeats 4000000 in
theorem pexch_zero (x y : Qd) (w : World) (hx : x.oerr = 0) (hy : y.oerr = 0) (hz : x.rdv.nrm / 4 = 0 ∨ y.rdv.nrm / 4 = 0) :
    Calls Try.prog 37 #[.agg #[.int .i64 x.w, .int .i64 x.x, .int .i64 x.y, .int .i64 x.z, .int .i64 x.d], .agg #[.int .i64 y.w, .int .i64 y.x, .int .i64 y.y, .int .i64 y.z, .int .i64 y.d]] w fun e w' => e = .returned (.tuple #[.agg #[.int .i64 0, .int .i64 0, .int .i64 0, .int .i64 0, .int .i64 0], .agg #[.int .i64 0, .int .i64 0, .int .i64 0, .int .i64 0, .int .i64 0], .int .i64 10]) ∧ Below w.heap.size w w' := by
  have h : oerrL [x, y] = 0 := by rw [oerrL_two, if_pos hx]; exact hy
  obtain ⟨_, _, hx3, hx4⟩ := Opn.of hx
  obtain ⟨_, _, hy3, hy4⟩ := Opn.of hy
  have n0 := x.rdv.nrm_nonneg
  have n1 := y.rdv.nrm_nonneg
  have CX := Lib.hid (fun w => hnorm_any x.rdv (by omega) w)
  have CY := Lib.hid (fun w => hnorm_any y.rdv (by omega) w)
  have HG := Lib.hid (gcd2_in (x.rdv.nrm / 4) (y.rdv.nrm / 4) (by omega) (by omega))
  have HO := Lib.hid (fun W m hm => open_ok2 x y W h (m := m) hm)
  have bN : 0 ≤ x.rdv.nrm / 4 ∧ x.rdv.nrm / 4 ≤ 1000000 := by omega
  have bM : 0 ≤ y.rdv.nrm / 4 ∧ y.rdv.nrm / 4 ≤ 1000000 := by omega
  generalize x.rdv.nrm / 4 = N at *
  generalize y.rdv.nrm / 4 = M at *
  generalize x.rdv = X at *
  generalize y.rdv = Y at *
  clear hx hy hx3 hx4 hy3 hy4 h n0 n1
  by_cases hN : N = 0
  · have eN : (N == 0) = true := by simpa using hN
    clear hz
    go_enter Try.func37, Try.ntmps37
    go_wp2_with (first | (go_at_call 64; refine (HO.out _ _ (by simp)).mono ?_; rintro e w1 ⟨g, cap, rfl, ⟨hg, ⟨c0, c1, c2, c3⟩, ⟨d0, d1, d2, d3⟩⟩, hb1⟩; obtain ⟨g1, rfl⟩ := more_of_below hb1; clear hb1; simp only [size_more_eq, World.size_alloc] at hg))
    (refine wp_region_calm_tail 8 (Ext _) (by kernel_rfl) (by kernel_rfl) (Ext.start _) ?_; simp only [List.take_succ_cons, List.take_zero, List.drop_succ_cons, List.drop_zero]; (repeat (refine wpQuiet_step (fun K hK => ?_); go_simp; (try go_bits); apply Exists.intro; refine ⟨fun w' hw' => ?_, hK _ ?_⟩; (focus (first | with_reducible exact rfl | (go_at_call 79; (first | with_reducible exact Ext.call hw' (CX.out _) | with_reducible exact Ext.call hw' (CY.out _))) | (obtain ⟨gx, rfl⟩ := more_of_below (Ext.below hw'); go_simp; exact rfl))); clear hK K)); refine wpQuiet_nil ?_; intro w2 hw2; have hb2 := Ext.below hw2; clear hw2; obtain ⟨g2, rfl⟩ := more_of_below hb2; clear hb2)
    go_wp2
    refine bodyPost_ret (v := .tuple #[.agg #[.int .i64 0, .int .i64 0, .int .i64 0, .int .i64 0, .int .i64 0], .agg #[.int .i64 0, .int .i64 0, .int .i64 0, .int .i64 0, .int .i64 0], .int .i64 10]) (by simp [results, Try.results37, go_sem]) rfl ⟨rfl, by (repeat (first | with_reducible assumption | with_reducible exact Below.refl _ _ | with_reducible refine Below.drewN ?_ _ | with_reducible refine Below.drew ?_ | with_reducible refine Below.alloc ?_ (by first | omega | (simp; done) | (simp; omega)) _ | with_reducible refine Below.setCell ?_ (by first | omega | (simp; done) | (simp; omega)) _ | with_reducible refine below_more _ _ ?_ (by first | omega | (simp; done) | (simp; omega))))⟩
  · have eN : (N == 0) = false := by simpa using hN
    have hM : M = 0 := by omega
    have eM : (M == 0) = true := by simpa using hM
    clear hz
    go_enter Try.func37, Try.ntmps37
    go_wp2_with (first | (go_at_call 64; refine (HO.out _ _ (by simp)).mono ?_; rintro e w1 ⟨g, cap, rfl, ⟨hg, ⟨c0, c1, c2, c3⟩, ⟨d0, d1, d2, d3⟩⟩, hb1⟩; obtain ⟨g1, rfl⟩ := more_of_below hb1; clear hb1; simp only [size_more_eq, World.size_alloc] at hg))
    (refine wp_region_calm_tail 8 (Ext _) (by kernel_rfl) (by kernel_rfl) (Ext.start _) ?_; simp only [List.take_succ_cons, List.take_zero, List.drop_succ_cons, List.drop_zero]; (repeat (refine wpQuiet_step (fun K hK => ?_); go_simp; (try go_bits); apply Exists.intro; refine ⟨fun w' hw' => ?_, hK _ ?_⟩; (focus (first | with_reducible exact rfl | (go_at_call 79; (first | with_reducible exact Ext.call hw' (CX.out _) | with_reducible exact Ext.call hw' (CY.out _))) | (obtain ⟨gx, rfl⟩ := more_of_below (Ext.below hw'); go_simp; exact rfl))); clear hK K)); refine wpQuiet_nil ?_; intro w2 hw2; have hb2 := Ext.below hw2; clear hw2; obtain ⟨g2, rfl⟩ := more_of_below hb2; clear hb2)
    go_wp2
    refine bodyPost_ret (v := .tuple #[.agg #[.int .i64 0, .int .i64 0, .int .i64 0, .int .i64 0, .int .i64 0], .agg #[.int .i64 0, .int .i64 0, .int .i64 0, .int .i64 0, .int .i64 0], .int .i64 10]) (by simp [results, Try.results37, go_sem]) rfl ⟨rfl, by (repeat (first | with_reducible assumption | with_reducible exact Below.refl _ _ | with_reducible refine Below.drewN ?_ _ | with_reducible refine Below.drew ?_ | with_reducible refine Below.alloc ?_ (by first | omega | (simp; done) | (simp; omega)) _ | with_reducible refine Below.setCell ?_ (by first | omega | (simp; done) | (simp; omega)) _ | with_reducible refine below_more _ _ ?_ (by first | omega | (simp; done) | (simp; omega))))⟩
set_option maxRecDepth 10000 in
set_option maxHeartbeats 4000000 in
theorem pexch_form (x y : Qd) (w : World) (hx : x.oerr = 0) (hy : y.oerr = 0) (hN : ¬ x.rdv.nrm / 4 = 0) (hM : ¬ y.rdv.nrm / 4 = 0) (hG : ¬ gcdL [x.rdv.nrm / 4, y.rdv.nrm / 4] = 1) :
    Calls Try.prog 37 #[.agg #[.int .i64 x.w, .int .i64 x.x, .int .i64 x.y, .int .i64 x.z, .int .i64 x.d], .agg #[.int .i64 y.w, .int .i64 y.x, .int .i64 y.y, .int .i64 y.z, .int .i64 y.d]] w fun e w' => e = .returned (.tuple #[.agg #[.int .i64 0, .int .i64 0, .int .i64 0, .int .i64 0, .int .i64 0], .agg #[.int .i64 0, .int .i64 0, .int .i64 0, .int .i64 0, .int .i64 0], .int .i64 3]) ∧ Below w.heap.size w w' := by
  have h : oerrL [x, y] = 0 := by rw [oerrL_two, if_pos hx]; exact hy
  obtain ⟨_, _, hx3, hx4⟩ := Opn.of hx
  obtain ⟨_, _, hy3, hy4⟩ := Opn.of hy
  have n0 := x.rdv.nrm_nonneg
  have n1 := y.rdv.nrm_nonneg
  have CX := Lib.hid (fun w => hnorm_any x.rdv (by omega) w)
  have CY := Lib.hid (fun w => hnorm_any y.rdv (by omega) w)
  have HG := Lib.hid (gcd2_in (x.rdv.nrm / 4) (y.rdv.nrm / 4) (by omega) (by omega))
  have HO := Lib.hid (fun W m hm => open_ok2 x y W h (m := m) hm)
  have bN : 0 ≤ x.rdv.nrm / 4 ∧ x.rdv.nrm / 4 ≤ 1000000 := by omega
  have bM : 0 ≤ y.rdv.nrm / 4 ∧ y.rdv.nrm / 4 ≤ 1000000 := by omega
  generalize gcdL [x.rdv.nrm / 4, y.rdv.nrm / 4] = G at *
  generalize x.rdv.nrm / 4 = N at *
  generalize y.rdv.nrm / 4 = M at *
  generalize x.rdv = X at *
  generalize y.rdv = Y at *
  clear hx hy hx3 hx4 hy3 hy4 h n0 n1
  have eN : (N == 0) = false := by simpa using hN
  have eM : (M == 0) = false := by simpa using hM
  have eG : ((G : Int) != 1) = true := by simp; omega
  go_enter Try.func37, Try.ntmps37
  go_wp2_with (first | (go_at_call 64; refine (HO.out _ _ (by simp)).mono ?_; rintro e w1 ⟨g, cap, rfl, ⟨hg, ⟨c0, c1, c2, c3⟩, ⟨d0, d1, d2, d3⟩⟩, hb1⟩; obtain ⟨g1, rfl⟩ := more_of_below hb1; clear hb1; simp only [size_more_eq, World.size_alloc] at hg))
  (refine wp_region_calm_tail 8 (Ext _) (by kernel_rfl) (by kernel_rfl) (Ext.start _) ?_; simp only [List.take_succ_cons, List.take_zero, List.drop_succ_cons, List.drop_zero]; (repeat (refine wpQuiet_step (fun K hK => ?_); go_simp; (try go_bits); apply Exists.intro; refine ⟨fun w' hw' => ?_, hK _ ?_⟩; (focus (first | with_reducible exact rfl | (go_at_call 79; (first | with_reducible exact Ext.call hw' (CX.out _) | with_reducible exact Ext.call hw' (CY.out _))) | (obtain ⟨gx, rfl⟩ := more_of_below (Ext.below hw'); go_simp; exact rfl))); clear hK K)); refine wpQuiet_nil ?_; intro w2 hw2; have hb2 := Ext.below hw2; clear hw2; obtain ⟨g2, rfl⟩ := more_of_below hb2; clear hb2)
  go_wp2_with (first | (go_at_call 81; refine (HG.out _ _ _ (by simp) (by go_simp) (by go_simp)).mono ?_; rintro e w3 ⟨rfl, hb3⟩; obtain ⟨g3, rfl⟩ := more_of_below hb3; clear hb3))
  refine bodyPost_ret (v := .tuple #[.agg #[.int .i64 0, .int .i64 0, .int .i64 0, .int .i64 0, .int .i64 0], .agg #[.int .i64 0, .int .i64 0, .int .i64 0, .int .i64 0, .int .i64 0], .int .i64 3]) (by simp [results, Try.results37, go_sem]) rfl ⟨rfl, by (repeat (first | with_reducible assumption | with_reducible exact Below.refl _ _ | with_reducible refine Below.drewN ?_ _ | with_reducible refine Below.drew ?_ | with_reducible refine Below.alloc ?_ (by first | omega | (simp; done) | (simp; omega)) _ | with_reducible refine Below.setCell ?_ (by first | omega | (simp; done) | (simp; omega)) _ | with_reducible refine below_more _ _ ?_ (by first | omega | (simp; done) | (simp; omega))))⟩
set_option maxRecDepth 10000 in
set_option maxHeartbeats 4000000 in
theorem pexch_large (x y : Qd) (w : World) (hx : x.oerr = 0) (hy : y.oerr = 0) (hN : ¬ x.rdv.nrm / 4 = 0) (hM : ¬ y.rdv.nrm / 4 = 0) (hG : gcdL [x.rdv.nrm / 4, y.rdv.nrm / 4] = 1) (hl : 1000000 < x.rdv.nrm / 4 * (y.rdv.nrm / 4)) :
    Calls Try.prog 37 #[.agg #[.int .i64 x.w, .int .i64 x.x, .int .i64 x.y, .int .i64 x.z, .int .i64 x.d], .agg #[.int .i64 y.w, .int .i64 y.x, .int .i64 y.y, .int .i64 y.z, .int .i64 y.d]] w fun e w' => e = .returned (.tuple #[.agg #[.int .i64 0, .int .i64 0, .int .i64 0, .int .i64 0, .int .i64 0], .agg #[.int .i64 0, .int .i64 0, .int .i64 0, .int .i64 0, .int .i64 0], .int .i64 8]) ∧ Below w.heap.size w w' := by
  have h : oerrL [x, y] = 0 := by rw [oerrL_two, if_pos hx]; exact hy
  obtain ⟨_, _, hx3, hx4⟩ := Opn.of hx
  obtain ⟨_, _, hy3, hy4⟩ := Opn.of hy
  have n0 := x.rdv.nrm_nonneg
  have n1 := y.rdv.nrm_nonneg
  have CX := Lib.hid (fun w => hnorm_any x.rdv (by omega) w)
  have CY := Lib.hid (fun w => hnorm_any y.rdv (by omega) w)
  have HG := Lib.hid (gcd2_in (x.rdv.nrm / 4) (y.rdv.nrm / 4) (by omega) (by omega))
  have HO := Lib.hid (fun W m hm => open_ok2 x y W h (m := m) hm)
  have bN : 0 ≤ x.rdv.nrm / 4 ∧ x.rdv.nrm / 4 ≤ 1000000 := by omega
  have bM : 0 ≤ y.rdv.nrm / 4 ∧ y.rdv.nrm / 4 ≤ 1000000 := by omega
  generalize gcdL [x.rdv.nrm / 4, y.rdv.nrm / 4] = G at *
  generalize x.rdv.nrm / 4 = N at *
  generalize y.rdv.nrm / 4 = M at *
  generalize x.rdv = X at *
  generalize y.rdv = Y at *
  clear hx hy hx3 hx4 hy3 hy4 h n0 n1
  have eN : (N == 0) = false := by simpa using hN
  have eM : (M == 0) = false := by simpa using hM
  have eG : ((G : Int) != 1) = false := by rw [hG]; rfl
  have p1 : N * M ≤ 1000000 * 1000000 := Int.mul_le_mul bN.2 bM.2 bM.1 (by omega)
  go_enter Try.func37, Try.ntmps37
  go_wp2_with (first | (go_at_call 64; refine (HO.out _ _ (by simp)).mono ?_; rintro e w1 ⟨g, cap, rfl, ⟨hg, ⟨c0, c1, c2, c3⟩, ⟨d0, d1, d2, d3⟩⟩, hb1⟩; obtain ⟨g1, rfl⟩ := more_of_below hb1; clear hb1; simp only [size_more_eq, World.size_alloc] at hg))
  (refine wp_region_calm_tail 8 (Ext _) (by kernel_rfl) (by kernel_rfl) (Ext.start _) ?_; simp only [List.take_succ_cons, List.take_zero, List.drop_succ_cons, List.drop_zero]; (repeat (refine wpQuiet_step (fun K hK => ?_); go_simp; (try go_bits); apply Exists.intro; refine ⟨fun w' hw' => ?_, hK _ ?_⟩; (focus (first | with_reducible exact rfl | (go_at_call 79; (first | with_reducible exact Ext.call hw' (CX.out _) | with_reducible exact Ext.call hw' (CY.out _))) | (obtain ⟨gx, rfl⟩ := more_of_below (Ext.below hw'); go_simp; exact rfl))); clear hK K)); refine wpQuiet_nil ?_; intro w2 hw2; have hb2 := Ext.below hw2; clear hw2; obtain ⟨g2, rfl⟩ := more_of_below hb2; clear hb2)
  go_wp2_with (first | (go_at_call 81; refine (HG.out _ _ _ (by simp) (by go_simp) (by go_simp)).mono ?_; rintro e w3 ⟨rfl, hb3⟩; obtain ⟨g3, rfl⟩ := more_of_below hb3; clear hb3))
  refine bodyPost_ret (v := .tuple #[.agg #[.int .i64 0, .int .i64 0, .int .i64 0, .int .i64 0, .int .i64 0], .agg #[.int .i64 0, .int .i64 0, .int .i64 0, .int .i64 0, .int .i64 0], .int .i64 8]) (by simp [results, Try.results37, go_sem]) rfl ⟨rfl, by (repeat (first | with_reducible assumption | with_reducible exact Below.refl _ _ | with_reducible refine Below.drewN ?_ _ | with_reducible refine Below.drew ?_ | with_reducible refine Below.alloc ?_ (by first | omega | (simp; done) | (simp; omega)) _ | with_reducible refine Below.setCell ?_ (by first | omega | (simp; done) | (simp; omega)) _ | with_reducible refine below_more _ _ ?_ (by first | omega | (simp; done) | (simp; omega))))⟩
set_option maxRecDepth 10000 in
set_option maxHeartbeats 4000000 in
theorem exch_walk (X Y Z N S T : Qt) (n : Int)
    (ct : ∀ w, Calls Try.prog 80 #[.agg #[.int .i64 X.w, .int .i64 X.x, .int .i64 X.y, .int .i64 X.z], .agg #[.int .i64 Y.w, .int .i64 Y.x, .int .i64 Y.y, .int .i64 Y.z]] w fun e w' => e = .returned (.agg #[.int .i64 Z.w, .int .i64 Z.x, .int .i64 Z.y, .int .i64 Z.z]) ∧ Below w.heap.size w w')
    (cn : ∀ w, Calls Try.prog 79 #[.agg #[.int .i64 Y.w, .int .i64 Y.x, .int .i64 Y.y, .int .i64 Y.z]] w fun e w' => e = .returned (.int .i64 n) ∧ Below w.heap.size w w')
    (cm : ∀ w, Calls Try.prog 106 #[.int .i64 n] w fun e w' => e = .returned (.agg #[.int .i64 N.w, .int .i64 N.x, .int .i64 N.y, .int .i64 N.z]) ∧ Below w.heap.size w w')
    (cc : ∀ w, Calls Try.prog 76 #[.agg #[.int .i64 Z.w, .int .i64 Z.x, .int .i64 Z.y, .int .i64 Z.z], .agg #[.int .i64 N.w, .int .i64 N.x, .int .i64 N.y, .int .i64 N.z]] w fun e w' => e = .returned (.agg #[.int .i64 S.w, .int .i64 S.x, .int .i64 S.y, .int .i64 S.z]) ∧ Below w.heap.size w w')
    (cb : ∀ w, Calls Try.prog 107 #[.agg #[.int .i64 Z.w, .int .i64 Z.x, .int .i64 Z.y, .int .i64 Z.z], .agg #[.int .i64 S.w, .int .i64 S.x, .int .i64 S.y, .int .i64 S.z]] w fun e w' => e = .returned (.agg #[.int .i64 T.w, .int .i64 T.x, .int .i64 T.y, .int .i64 T.z]) ∧ Below w.heap.size w w') (w : World) :
    Calls Try.prog 82 #[.agg #[.int .i64 X.w, .int .i64 X.x, .int .i64 X.y, .int .i64 X.z], .agg #[.int .i64 Y.w, .int .i64 Y.x, .int .i64 Y.y, .int .i64 Y.z]] w fun e w' => e = .returned (.tuple #[.agg #[.int .i64 S.w, .int .i64 S.x, .int .i64 S.y, .int .i64 S.z], .agg #[.int .i64 T.w, .int .i64 T.x, .int .i64 T.y, .int .i64 T.z]]) ∧ Below w.heap.size w w' := by
  have CT := Lib.hid ct; have CN := Lib.hid cn; have CM := Lib.hid cm; have CC := Lib.hid cc; have CB := Lib.hid cb
  clear ct cn cm cc cb
  go_enter Try.func82, Try.ntmps82
  go_wp2_with (first | (go_at_call 80; with_reducible refine (CT.out _).mono ?_; rintro e w1 ⟨rfl, hb1⟩; obtain ⟨g1, rfl⟩ := more_of_below hb1; clear hb1))
  (apply Own2.wp_region_own2 6 [.inl _, .inl _, .inl _, .inl _, .inl _, .inr (.cells #[.int .i64 0, .int .i64 0, .int .i64 0, .int .i64 0] 96, fun b => .pointer (some ⟨b, 0, none⟩))] (by kernel_rfl) (by kernel_rfl); simp only [List.take_succ_cons, List.take_zero, List.drop_succ_cons, List.drop_zero]; (refine Own2.lexM_val rfl (fun K hK => ?_); go_simp; (try go_bits); refine ⟨fun w' hw' hcb' => ?_, hK _ ?_⟩; (focus (first | with_reducible exact rfl | (go_at_call 79; (with_reducible exact CN.out _)) | (go_at_call 106; (with_reducible exact CM.out _)) | (go_at_call 76; (with_reducible exact CC.out _)) | (obtain ⟨gx, rfl⟩ := more_of_below (Ext.below hw'); go_simp; exact rfl))); clear hK K); (refine Own2.lexM_val rfl (fun K hK => ?_); go_simp; (try go_bits); refine ⟨fun w' hw' hcb' => ?_, hK _ ?_⟩; (focus (first | with_reducible exact rfl | (go_at_call 79; (with_reducible exact CN.out _)) | (go_at_call 106; (with_reducible exact CM.out _)) | (go_at_call 76; (with_reducible exact CC.out _)) | (obtain ⟨gx, rfl⟩ := more_of_below (Ext.below hw'); go_simp; exact rfl))); clear hK K); (refine Own2.lexM_val rfl (fun K hK => ?_); go_simp; (try go_bits); refine ⟨fun w' hw' hcb' => ?_, hK _ ?_⟩; (focus (first | with_reducible exact rfl | (go_at_call 79; (with_reducible exact CN.out _)) | (go_at_call 106; (with_reducible exact CM.out _)) | (go_at_call 76; (with_reducible exact CC.out _)) | (obtain ⟨gx, rfl⟩ := more_of_below (Ext.below hw'); go_simp; exact rfl))); clear hK K); (refine Own2.lexM_val rfl (fun K hK => ?_); go_simp; (try go_bits); refine ⟨fun w' hw' hcb' => ?_, hK _ ?_⟩; (focus (first | with_reducible exact rfl | (go_at_call 79; (with_reducible exact CN.out _)) | (go_at_call 106; (with_reducible exact CM.out _)) | (go_at_call 76; (with_reducible exact CC.out _)) | (obtain ⟨gx, rfl⟩ := more_of_below (Ext.below hw'); go_simp; exact rfl))); clear hK K); (refine Own2.lexM_val rfl (fun K hK => ?_); go_simp; (try go_bits); refine ⟨fun w' hw' hcb' => ?_, hK _ ?_⟩; (focus (first | with_reducible exact rfl | (go_at_call 79; (with_reducible exact CN.out _)) | (go_at_call 106; (with_reducible exact CM.out _)) | (go_at_call 76; (with_reducible exact CC.out _)) | (obtain ⟨gx, rfl⟩ := more_of_below (Ext.below hw'); go_simp; exact rfl))); clear hK K); (refine Own2.lexM_mem rfl ?_ (fun w => by first | rfl | (go_simp; rfl) | (go_simp; done)) (fun b21 hb21 hn21 => ?_); (focus (first | rfl | (go_simp <;> rfl) | decide)); simp only [Act.put, List.setIfInBounds_toArray, List.set_cons_succ, List.set_cons_zero]); intro w2 hw2; have hB2 := hw2.1; have hO21 := (hw2.2 _ b21 _ (Or.inl ⟨rfl, rfl, rfl⟩)).2; clear hw2; obtain ⟨g2, g2', hE2, rfl⟩ := split_block hB2 hb21 hO21; clear hB2 hb21 hO21; (try clear hn21); (repeat (first | simp only [size_more_eq] at hE2 | simp only [World.size_alloc] at hE2)); subst hE2)
  go_wp2_with fail
  (refine wp_region_calm_tail 4 (Ext _) (by kernel_rfl) (by kernel_rfl) (Ext.start _) ?_; simp only [List.take_succ_cons, List.take_zero, List.drop_succ_cons, List.drop_zero]; (repeat (refine wpQuiet_step (fun K hK => ?_); go_simp; (try go_bits); apply Exists.intro; refine ⟨fun w' hw' => ?_, hK _ ?_⟩; (focus (first | with_reducible exact rfl | (go_at_call 107; (with_reducible exact Ext.call hw' (CB.out _))) | (obtain ⟨gx, rfl⟩ := more_of_below (Ext.below hw'); go_simp; exact rfl))); clear hK K)); refine wpQuiet_nil ?_; intro w3 hw3; have hb3 := Ext.below hw3; clear hw3; obtain ⟨g3, rfl⟩ := more_of_below hb3; clear hb3)
  go_wp2
  refine bodyPost_ret (v := .tuple #[.agg #[.int .i64 S.w, .int .i64 S.x, .int .i64 S.y, .int .i64 S.z], .agg #[.int .i64 T.w, .int .i64 T.x, .int .i64 T.y, .int .i64 T.z]]) (by simp [results, Try.results82, go_sem]) rfl ⟨rfl, by (repeat (first | with_reducible assumption | with_reducible exact Below.refl _ _ | with_reducible refine Below.drewN ?_ _ | with_reducible refine Below.drew ?_ | with_reducible refine Below.alloc ?_ (by first | omega | (simp; done) | (simp; omega)) _ | with_reducible refine Below.setCell ?_ (by first | omega | (simp; done) | (simp; omega)) _ | with_reducible refine below_more _ _ ?_ (by first | omega | (simp; done) | (simp; omega))))⟩
set_option maxHeartbeats 400000 in
theorem rwhole_in (n : Int) (h0 : 0 ≤ n) (h1 : n ≤ 1000000000) (w : World) :
    Calls Try.prog 84 #[.int .i64 n] w fun e w' => e = .returned (.agg #[.int .i64 (2 * n), .int .i64 0, .int .i64 0, .int .i64 0]) ∧ Below w.heap.size w w' := by
  go_enter Try.func84, Try.ntmps84
  go_wp2
  refine bodyPost_ret (v := .agg #[.int .i64 (2 * n), .int .i64 0, .int .i64 0, .int .i64 0]) (by simp [results, Try.results84, go_sem]) rfl ⟨rfl, ?_⟩
  (repeat (first | with_reducible assumption | with_reducible exact Below.refl _ _ | with_reducible refine Below.drewN ?_ _ | with_reducible refine Below.drew ?_ | with_reducible refine Below.alloc ?_ (by first | omega | (simp; done) | (simp; omega)) _ | with_reducible refine Below.setCell ?_ (by first | omega | (simp; done) | (simp; omega)) _ | with_reducible refine below_more _ _ ?_ (by first | omega | (simp; done) | (simp; omega))))
set_option maxRecDepth 10000 in
set_option maxHeartbeats 4000000 in
theorem rexch_walk (X Y Z N S T : Qt) (n : Int)
    (ct : ∀ w, Calls Try.prog 23 #[.agg #[.int .i64 X.w, .int .i64 X.x, .int .i64 X.y, .int .i64 X.z], .agg #[.int .i64 Y.w, .int .i64 Y.x, .int .i64 Y.y, .int .i64 Y.z]] w fun e w' => e = .returned (.agg #[.int .i64 Z.w, .int .i64 Z.x, .int .i64 Z.y, .int .i64 Z.z]) ∧ Below w.heap.size w w')
    (cn : ∀ w, Calls Try.prog 21 #[.agg #[.int .i64 Y.w, .int .i64 Y.x, .int .i64 Y.y, .int .i64 Y.z]] w fun e w' => e = .returned (.int .i64 n) ∧ Below w.heap.size w w')
    (cm : ∀ w, Calls Try.prog 84 #[.int .i64 n] w fun e w' => e = .returned (.agg #[.int .i64 N.w, .int .i64 N.x, .int .i64 N.y, .int .i64 N.z]) ∧ Below w.heap.size w w')
    (cc : ∀ w, Calls Try.prog 31 #[.agg #[.int .i64 Z.w, .int .i64 Z.x, .int .i64 Z.y, .int .i64 Z.z], .agg #[.int .i64 N.w, .int .i64 N.x, .int .i64 N.y, .int .i64 N.z]] w fun e w' => e = .returned (.agg #[.int .i64 S.w, .int .i64 S.x, .int .i64 S.y, .int .i64 S.z]) ∧ Below w.heap.size w w')
    (cb : ∀ w, Calls Try.prog 32 #[.agg #[.int .i64 Z.w, .int .i64 Z.x, .int .i64 Z.y, .int .i64 Z.z], .agg #[.int .i64 S.w, .int .i64 S.x, .int .i64 S.y, .int .i64 S.z]] w fun e w' => e = .returned (.tuple #[.agg #[.int .i64 T.w, .int .i64 T.x, .int .i64 T.y, .int .i64 T.z], .bool true]) ∧ Below w.heap.size w w') (w : World) :
    Calls Try.prog 39 #[.agg #[.int .i64 X.w, .int .i64 X.x, .int .i64 X.y, .int .i64 X.z], .agg #[.int .i64 Y.w, .int .i64 Y.x, .int .i64 Y.y, .int .i64 Y.z]] w fun e w' => e = .returned (.tuple #[.agg #[.int .i64 S.w, .int .i64 S.x, .int .i64 S.y, .int .i64 S.z], .agg #[.int .i64 T.w, .int .i64 T.x, .int .i64 T.y, .int .i64 T.z]]) ∧ Below w.heap.size w w' := by
  have CT := Lib.hid ct; have CN := Lib.hid cn; have CM := Lib.hid cm; have CC := Lib.hid cc; have CB := Lib.hid cb
  clear ct cn cm cc cb
  go_enter Try.func39, Try.ntmps39
  go_wp2_with (first | (go_at_call 23; with_reducible refine (CT.out _).mono ?_; rintro e w1 ⟨rfl, hb1⟩; obtain ⟨g1, rfl⟩ := more_of_below hb1; clear hb1))
  (apply Own2.wp_region_own2 6 [.inl _, .inl _, .inl _, .inl _, .inl _, .inr (.cells #[.int .i64 0, .int .i64 0, .int .i64 0, .int .i64 0] 32, fun b => .pointer (some ⟨b, 0, none⟩))] (by kernel_rfl) (by kernel_rfl); simp only [List.take_succ_cons, List.take_zero, List.drop_succ_cons, List.drop_zero]; (refine Own2.lexM_val rfl (fun K hK => ?_); go_simp; (try go_bits); refine ⟨fun w' hw' hcb' => ?_, hK _ ?_⟩; (focus (first | with_reducible exact rfl | (go_at_call 21; (with_reducible exact CN.out _)) | (go_at_call 84; (with_reducible exact CM.out _)) | (go_at_call 31; (with_reducible exact CC.out _)) | (obtain ⟨gx, rfl⟩ := more_of_below (Ext.below hw'); go_simp; exact rfl))); clear hK K); (refine Own2.lexM_val rfl (fun K hK => ?_); go_simp; (try go_bits); refine ⟨fun w' hw' hcb' => ?_, hK _ ?_⟩; (focus (first | with_reducible exact rfl | (go_at_call 21; (with_reducible exact CN.out _)) | (go_at_call 84; (with_reducible exact CM.out _)) | (go_at_call 31; (with_reducible exact CC.out _)) | (obtain ⟨gx, rfl⟩ := more_of_below (Ext.below hw'); go_simp; exact rfl))); clear hK K); (refine Own2.lexM_val rfl (fun K hK => ?_); go_simp; (try go_bits); refine ⟨fun w' hw' hcb' => ?_, hK _ ?_⟩; (focus (first | with_reducible exact rfl | (go_at_call 21; (with_reducible exact CN.out _)) | (go_at_call 84; (with_reducible exact CM.out _)) | (go_at_call 31; (with_reducible exact CC.out _)) | (obtain ⟨gx, rfl⟩ := more_of_below (Ext.below hw'); go_simp; exact rfl))); clear hK K); (refine Own2.lexM_val rfl (fun K hK => ?_); go_simp; (try go_bits); refine ⟨fun w' hw' hcb' => ?_, hK _ ?_⟩; (focus (first | with_reducible exact rfl | (go_at_call 21; (with_reducible exact CN.out _)) | (go_at_call 84; (with_reducible exact CM.out _)) | (go_at_call 31; (with_reducible exact CC.out _)) | (obtain ⟨gx, rfl⟩ := more_of_below (Ext.below hw'); go_simp; exact rfl))); clear hK K); (refine Own2.lexM_val rfl (fun K hK => ?_); go_simp; (try go_bits); refine ⟨fun w' hw' hcb' => ?_, hK _ ?_⟩; (focus (first | with_reducible exact rfl | (go_at_call 21; (with_reducible exact CN.out _)) | (go_at_call 84; (with_reducible exact CM.out _)) | (go_at_call 31; (with_reducible exact CC.out _)) | (obtain ⟨gx, rfl⟩ := more_of_below (Ext.below hw'); go_simp; exact rfl))); clear hK K); (refine Own2.lexM_mem rfl ?_ (fun w => by first | rfl | (go_simp; rfl) | (go_simp; done)) (fun b21 hb21 hn21 => ?_); (focus (first | rfl | (go_simp <;> rfl) | decide)); simp only [Act.put, List.setIfInBounds_toArray, List.set_cons_succ, List.set_cons_zero]); intro w2 hw2; have hB2 := hw2.1; have hO21 := (hw2.2 _ b21 _ (Or.inl ⟨rfl, rfl, rfl⟩)).2; clear hw2; obtain ⟨g2, g2', hE2, rfl⟩ := split_block hB2 hb21 hO21; clear hB2 hb21 hO21; (try clear hn21); (repeat (first | simp only [size_more_eq] at hE2 | simp only [World.size_alloc] at hE2)); subst hE2)
  go_wp2_with (first | (go_at_call 32; with_reducible refine (CB.out _).mono ?_; rintro e w3 ⟨rfl, hb3⟩; obtain ⟨g3, rfl⟩ := more_of_below hb3; clear hb3))
  go_region
  go_wp2
  refine bodyPost_ret (v := .tuple #[.agg #[.int .i64 S.w, .int .i64 S.x, .int .i64 S.y, .int .i64 S.z], .agg #[.int .i64 T.w, .int .i64 T.x, .int .i64 T.y, .int .i64 T.z]]) (by simp [results, Try.results39, go_sem]) rfl ⟨rfl, by (repeat (first | with_reducible assumption | with_reducible exact Below.refl _ _ | with_reducible refine Below.drewN ?_ _ | with_reducible refine Below.drew ?_ | with_reducible refine Below.alloc ?_ (by first | omega | (simp; done) | (simp; omega)) _ | with_reducible refine Below.setCell ?_ (by first | omega | (simp; done) | (simp; omega)) _ | with_reducible refine below_more _ _ ?_ (by first | omega | (simp; done) | (simp; omega))))⟩
end Go.Proofs.Ythajaabgcbjfkaa

namespace Go.Proofs.Ythajaabgcbjfkaa
open Go.RowKit
attribute [local go_sem ↓] Go.wp_at_zero Go.wp_at_succ

set_option maxRecDepth 10000 in
set_option maxHeartbeats 4000000 in
theorem pexch_ok (x y : Qd) (w : World) (hx : x.oerr = 0) (hy : y.oerr = 0) (hN : ¬ x.rdv.nrm / 4 = 0) (hM : ¬ y.rdv.nrm / 4 = 0) (hG : gcdL [x.rdv.nrm / 4, y.rdv.nrm / 4] = 1) (hl : ¬ 1000000 < x.rdv.nrm / 4 * (y.rdv.nrm / 4)) (q r : Qt) (iq : q.InR) (ir : r.InR)
    (hD : ∀ w, Calls Try.prog 82 #[.agg #[.int .i64 x.rdv.w, .int .i64 x.rdv.x, .int .i64 x.rdv.y, .int .i64 x.rdv.z], .agg #[.int .i64 y.rdv.w, .int .i64 y.rdv.x, .int .i64 y.rdv.y, .int .i64 y.rdv.z]] w fun e w' => e = .returned (.tuple #[.agg #[.int .i64 q.w, .int .i64 q.x, .int .i64 q.y, .int .i64 q.z], .agg #[.int .i64 r.w, .int .i64 r.x, .int .i64 r.y, .int .i64 r.z]]) ∧ Below w.heap.size w w') :
    Calls Try.prog 37 #[.agg #[.int .i64 x.w, .int .i64 x.x, .int .i64 x.y, .int .i64 x.z, .int .i64 x.d], .agg #[.int .i64 y.w, .int .i64 y.x, .int .i64 y.y, .int .i64 y.z, .int .i64 y.d]] w fun e w' => e = .returned (.tuple #[.agg #[.int .i64 q.toQ.w, .int .i64 q.toQ.x, .int .i64 q.toQ.y, .int .i64 q.toQ.z, .int .i64 q.toQ.d], .agg #[.int .i64 r.toQ.w, .int .i64 r.toQ.x, .int .i64 r.toQ.y, .int .i64 r.toQ.z, .int .i64 r.toQ.d], .int .i64 0]) ∧ Below w.heap.size w w' := by
  have h : oerrL [x, y] = 0 := by rw [oerrL_two, if_pos hx]; exact hy
  obtain ⟨_, _, hx3, hx4⟩ := Opn.of hx
  obtain ⟨_, _, hy3, hy4⟩ := Opn.of hy
  have n0 := x.rdv.nrm_nonneg
  have n1 := y.rdv.nrm_nonneg
  have CX := Lib.hid (fun w => hnorm_any x.rdv (by omega) w)
  have CY := Lib.hid (fun w => hnorm_any y.rdv (by omega) w)
  have HG := Lib.hid (gcd2_in (x.rdv.nrm / 4) (y.rdv.nrm / 4) (by omega) (by omega))
  have HO := Lib.hid (fun W m hm => open_ok2 x y W h (m := m) hm)
  have bN : 0 ≤ x.rdv.nrm / 4 ∧ x.rdv.nrm / 4 ≤ 1000000 := by omega
  have bM : 0 ≤ y.rdv.nrm / 4 ∧ y.rdv.nrm / 4 ≤ 1000000 := by omega
  have HD := Lib.hid hD
  clear hD
  generalize gcdL [x.rdv.nrm / 4, y.rdv.nrm / 4] = G at *
  generalize x.rdv.nrm / 4 = N at *
  generalize y.rdv.nrm / 4 = M at *
  generalize x.rdv = X at *
  generalize y.rdv = Y at *
  clear hx hy hx3 hx4 hy3 hy4 h n0 n1
  have eN : (N == 0) = false := by simpa using hN
  have eM : (M == 0) = false := by simpa using hM
  have eG : ((G : Int) != 1) = false := by rw [hG]; rfl
  have p0 : 0 ≤ N * M := Int.mul_nonneg bN.1 bM.1
  have CQ := Lib.hid (fun w => quat_in q iq w)
  have CR := Lib.hid (fun w => quat_in r ir w)
  clear iq ir hN hM hG
  generalize q.toQ = A at *
  generalize r.toQ = B at *
  go_enter Try.func37, Try.ntmps37
  go_wp2_with (first | (go_at_call 64; refine (HO.out _ _ (by simp)).mono ?_; rintro e w1 ⟨g, cap, rfl, ⟨hg, ⟨c0, c1, c2, c3⟩, ⟨d0, d1, d2, d3⟩⟩, hb1⟩; obtain ⟨g1, rfl⟩ := more_of_below hb1; clear hb1; simp only [size_more_eq, World.size_alloc] at hg))
  (refine wp_region_calm_tail 8 (Ext _) (by kernel_rfl) (by kernel_rfl) (Ext.start _) ?_; simp only [List.take_succ_cons, List.take_zero, List.drop_succ_cons, List.drop_zero]; (repeat (refine wpQuiet_step (fun K hK => ?_); go_simp; (try go_bits); apply Exists.intro; refine ⟨fun w' hw' => ?_, hK _ ?_⟩; (focus (first | with_reducible exact rfl | (go_at_call 79; (first | with_reducible exact Ext.call hw' (CX.out _) | with_reducible exact Ext.call hw' (CY.out _))) | (obtain ⟨gx, rfl⟩ := more_of_below (Ext.below hw'); go_simp; exact rfl))); clear hK K)); refine wpQuiet_nil ?_; intro w2 hw2; have hb2 := Ext.below hw2; clear hw2; obtain ⟨g2, rfl⟩ := more_of_below hb2; clear hb2)
  go_upto_region 11 with (first | (go_at_call 81; refine (HG.out _ _ _ (by simp) (by go_simp) (by go_simp)).mono ?_; rintro e w3 ⟨rfl, hb3⟩; obtain ⟨g3, rfl⟩ := more_of_below hb3; clear hb3))
  go_cut [11, 12] (fun s8 s9 wx => Below (w.heap.size + 4) ((((w.alloc (.cells #[.int .i64 x.w, .int .i64 x.x, .int .i64 x.y, .int .i64 x.z, .int .i64 x.d] 23)).alloc (.cells #[.int .i64 y.w, .int .i64 y.x, .int .i64 y.y, .int .i64 y.z, .int .i64 y.d] 23)).alloc (.cells #[.int .i64 0, .int .i64 0, .int .i64 0, .int .i64 0, .int .i64 0] 23)).alloc (.cells #[.int .i64 0, .int .i64 0, .int .i64 0, .int .i64 0, .int .i64 0] 23)) wx ∧ ∃ b8 b9, s8 = .pointer (some ⟨b8, 0, none⟩) ∧ s9 = .pointer (some ⟨b9, 0, none⟩) ∧ H4 wx b8 0 q ∧ H4 wx b9 0 r ∧ b8 < wx.heap.size ∧ b9 < wx.heap.size)
  case first =>
    go_region_with ((go_at_call 82; with_reducible refine (HD.out _).mono ?_; rintro e w' ⟨rfl, hb9⟩; obtain ⟨g9, rfl⟩ := more_of_below hb9; clear hb9))
    all_goals (clear c0 c1 c2 c3 d0 d1 d2 d3 HD)
    all_goals (go_wp2_with fail; go_meet; refine ⟨by (repeat (first | with_reducible assumption | with_reducible exact Below.refl _ _ | with_reducible refine Below.drewN ?_ _ | with_reducible refine Below.drew ?_ | with_reducible refine Below.alloc ?_ (by first | omega | (simp; done) | (simp; omega)) _ | with_reducible refine Below.setCell ?_ (by first | omega | (simp; done) | (simp; omega)) _ | with_reducible refine below_more _ _ ?_ (by first | omega | (simp; done) | (simp; omega)))), _, _, rfl, rfl, ⟨?_, ?_, ?_, ?_⟩, ⟨?_, ?_, ?_, ?_⟩, ?_, ?_⟩)
    all_goals (first | (go_simp; done) | (simp only [size_more_eq, World.size_alloc, World.size_setCell]; omega) | (simp; omega))
  case rest =>
    clear c0 c1 c2 c3 d0 d1 d2 d3 HD
    obtain ⟨hb, b8, b9, rfl, rfl, ⟨c0, c1, c2, c3⟩, ⟨d0, d1, d2, d3⟩, l8, l9⟩ := hcut
    obtain ⟨gc, rfl⟩ := more_of_below' hb (by simp)
    simp only [size_more_eq, World.size_alloc] at l8 l9
    go_wp2_with fail
    (refine wp_region_calm_tail 4 (Ext _) (by kernel_rfl) (by kernel_rfl) (Ext.start _) ?_; simp only [List.take_succ_cons, List.take_zero, List.drop_succ_cons, List.drop_zero]; (repeat (refine wpQuiet_step (fun K hK => ?_); go_simp; (try go_bits); apply Exists.intro; refine ⟨fun w' hw' => ?_, hK _ ?_⟩; (focus (first | with_reducible exact rfl | (go_at_call 67; (first | with_reducible exact Ext.call hw' (CQ.out _) | with_reducible exact Ext.call hw' (CR.out _))) | (obtain ⟨gx, rfl⟩ := more_of_below (Ext.below hw'); go_simp; exact rfl))); clear hK K)); refine wpQuiet_nil ?_; intro w4 hw4; have hb4 := Ext.below hw4; clear hw4; obtain ⟨g4, rfl⟩ := more_of_below hb4; clear hb4)
    go_wp2
    refine bodyPost_ret (v := .tuple #[.agg #[.int .i64 A.w, .int .i64 A.x, .int .i64 A.y, .int .i64 A.z, .int .i64 A.d], .agg #[.int .i64 B.w, .int .i64 B.x, .int .i64 B.y, .int .i64 B.z, .int .i64 B.d], .int .i64 0]) (by simp [results, Try.results37, go_sem]) rfl ⟨rfl, ?_⟩
    (repeat (first | with_reducible assumption | with_reducible exact Below.refl _ _ | with_reducible refine Below.drewN ?_ _ | with_reducible refine Below.drew ?_ | with_reducible refine Below.alloc ?_ (by first | omega | (simp; done) | (simp; omega)) _ | with_reducible refine Below.setCell ?_ (by first | omega | (simp; done) | (simp; omega)) _ | with_reducible refine below_more _ _ ?_ (by first | omega | (simp; done) | (simp; omega))))

/-- What both sides compute, and what stands in the statement. -/
theorem exch_both {X Y : Qt} (hX : Qt.Hz X) (hY : Qt.Hz Y) (bX : X.nrm ≤ 4000000) (bY : Y.nrm ≤ 4000000) (h1 : 1 ≤ X.nrm / 4) (h2 : 1 ≤ Y.nrm / 4) (hl : X.nrm / 4 * (Y.nrm / 4) ≤ 1000000) (hg : Int.gcd (X.nrm / 4) (Y.nrm / 4) = 1) :
    ∃ s t : Qt, Qt.Hz s ∧ Qt.Hz t ∧ s.nrm = Y.nrm ∧ t.nrm = X.nrm ∧ Qt.hm s t = Qt.hm X Y ∧
      (∀ w, Calls Try.prog 82 #[.agg #[.int .i64 X.w, .int .i64 X.x, .int .i64 X.y, .int .i64 X.z], .agg #[.int .i64 Y.w, .int .i64 Y.x, .int .i64 Y.y, .int .i64 Y.z]] w fun e w' => e = .returned (.tuple #[.agg #[.int .i64 s.w, .int .i64 s.x, .int .i64 s.y, .int .i64 s.z], .agg #[.int .i64 t.w, .int .i64 t.x, .int .i64 t.y, .int .i64 t.z]]) ∧ Below w.heap.size w w') ∧
      (∀ w, Calls Try.prog 39 #[.agg #[.int .i64 X.w, .int .i64 X.x, .int .i64 X.y, .int .i64 X.z], .agg #[.int .i64 Y.w, .int .i64 Y.x, .int .i64 Y.y, .int .i64 Y.z]] w fun e w' => e = .returned (.tuple #[.agg #[.int .i64 s.w, .int .i64 s.x, .int .i64 s.y, .int .i64 s.z], .agg #[.int .i64 t.w, .int .i64 t.x, .int .i64 t.y, .int .i64 t.z]]) ∧ Below w.heap.size w w') := by
  obtain ⟨hs, t, ht, e1, e2, e3⟩ := Qt.exch_plain hX hY h1 h2 hg
  have hZ := Qt.hz_hm hX hY
  have zn := Qt.hm_nrm hX hY
  have m1 := Qt.hz_nrm hX
  have m2 := Qt.hz_nrm hY
  have zb : (Qt.hm X Y).nrm ≤ 4000000 := by
    have f : X.nrm * Y.nrm = 16 * (X.nrm / 4 * (Y.nrm / 4)) := by
      have f1 : X.nrm = 4 * (X.nrm / 4) := by omega
      have f2 : Y.nrm = 4 * (Y.nrm / 4) := by omega
      generalize X.nrm / 4 = a at *
      generalize Y.nrm / 4 = b at *
      rw [f1, f2]; grind
    omega
  have nb : Qt.nrm ⟨2 * (Y.nrm / 4), 0, 0, 0⟩ ≤ 4000000000000 := by
    rw [Qt.nrm_num]
    have := Int.mul_le_mul (show Y.nrm / 4 ≤ 1000000 by omega) (show Y.nrm / 4 ≤ 1000000 by omega) (by omega) (by omega)
    omega
  have cc := common_hz (Qt.hm X Y) ⟨2 * (Y.nrm / 4), 0, 0, 0⟩ hZ (Qt.hz_num _) (by omega) nb
  have rc := rgcd_in (Qt.hm X Y) ⟨2 * (Y.nrm / 4), 0, 0, 0⟩ hZ (Qt.hz_num _) (by omega) nb
  generalize gcdQ (Qt.hm X Y) ⟨2 * (Y.nrm / 4), 0, 0, 0⟩ = s at *
  have xy : (X.mul Y).InR := Qt.inR_of_nrm (by rw [Qt.nrm_mul]; omega)
  have ct := htimes_in X Y xy
  have rt := rtimes_in X Y xy
  rw [Qt.hm_eq] at ct rt
  have sz : (s.conj.mul (Qt.hm X Y)).InR := Qt.inR_of_nrm (by
    rw [Qt.nrm_mul, Qt.nrm_conj, e2]
    have := Int.mul_le_mul bY zb (Qt.nrm_nonneg _) (by omega)
    omega)
  have cb := before_in (Qt.hm X Y) s (Qt.inR_of_nrm (by omega)) (by omega) (by omega) sz
  have bp := Qt.before_plain hs ht (by omega)
  rw [← e1] at bp
  rw [bp] at cb
  have rl := rleft_ok s t hs ht (by omega) (by omega) (by omega)
  rw [← e1] at rl
  exact ⟨s, t, hs, ht, e2, e3, e1.symm, exch_walk X Y _ ⟨2 * (Y.nrm / 4), 0, 0, 0⟩ s t _ ct (hnorm_any Y (by omega)) (number_in _ (by omega) (by omega)) cc cb,
    rexch_walk X Y _ ⟨2 * (Y.nrm / 4), 0, 0, 0⟩ s t _ rt (rnorm_in Y (by omega)) (rwhole_in _ (by omega) (by omega)) rc rl⟩
end Go.Proofs.Ythajaabgcbjfkaa
