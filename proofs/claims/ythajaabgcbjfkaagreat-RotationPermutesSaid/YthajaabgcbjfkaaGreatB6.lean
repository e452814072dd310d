/- Contracts: Units, Norm, Times; an element read back. Contracts: Exchange, of the program and of the reference. Printed by gen7.py. Contracts: Exchange where it answers; what both sides compute. Printed by gen8.py. -/
import Derived.Test.YthajaabgcbjfkaaGreatB3
import Derived.Deep.RegionWith
import Derived.Deep.DrawnRows
import Derived.Deep.DeepCutAuto
import Derived.Test.YthajaabgcbjfkaaGreatP3
namespace Go.Proofs.YthajaabgcbjfkaaGreat
open Go.RowKit

theorem Qt.toQ_cases {h : Qt} (hz : Qt.Hz h) : (∃ a b c d : Int, h = ⟨2 * a, 2 * b, 2 * c, 2 * d⟩ ∧ h.toQ = ⟨a, b, c, d, 1⟩) ∨ h.toQ = ⟨h.w, h.x, h.y, h.z, 2⟩ := by
  obtain ⟨h1, h2, h3⟩ := (Qt.hz_iff h).1 hz
  by_cases he : h.w % 2 = 0
  · refine .inl ⟨h.w.tdiv 2, h.x.tdiv 2, h.y.tdiv 2, h.z.tdiv 2, ?_, by unfold Qt.toQ; rw [if_pos he]⟩
    have t : ∀ a : Int, a % 2 = 0 → a = 2 * a.tdiv 2 := fun a ha => by
      obtain ⟨b, rfl⟩ : ∃ b, a = 2 * b := ⟨a / 2, by omega⟩
      rw [Int.mul_tdiv_cancel_left _ (by omega)]
    cases h
    simp only at *
    rw [← t _ he, ← t _ (by omega), ← t _ (by omega), ← t _ (by omega)]
  · exact .inr (by unfold Qt.toQ; rw [if_neg he])
theorem rdv_toQ {h : Qt} (hz : Qt.Hz h) : h.toQ.rdv = h := by
  rcases Qt.toQ_cases hz with ⟨a, b, c, d, rfl, e⟩ | e
  · rw [e]; simp only [Qd.rdv, Int.tdiv_one]
  · rw [e]
    have t : ∀ a : Int, (2 * a).tdiv 2 = a := fun a => Int.mul_tdiv_cancel_left _ (by omega)
    simp only [Qd.rdv, t]
theorem rdok_toQ {h : Qt} (hz : Qt.Hz h) : h.toQ.rdok = true := by
  have hr := rdv_toQ hz
  obtain ⟨h1, h2, h3⟩ := (Qt.hz_iff h).1 hz
  have t : ∀ a : Int, a % 2 = 0 → (a.tmod 2 != 0) = false := fun a ha => by rw [bne_eq_false_iff_eq, tmod2]; exact ha
  have r1 := congrArg Qt.w hr
  have r2 := congrArg Qt.x hr
  have r3 := congrArg Qt.y hr
  have r4 := congrArg Qt.z hr
  simp only [Qd.rdv] at r1 r2 r3 r4
  have m : ∀ a : Int, (2 * a).tmod h.toQ.d = 0 ∨ True := fun _ => .inr trivial
  clear m
  have key : (2 * h.toQ.w).tmod h.toQ.d = 0 ∧ (2 * h.toQ.x).tmod h.toQ.d = 0 ∧ (2 * h.toQ.y).tmod h.toQ.d = 0 ∧ (2 * h.toQ.z).tmod h.toQ.d = 0 := by
    rcases Qt.toQ_cases hz with ⟨a, b, c, d, _, e⟩ | e
    · rw [e]; simp only [Int.tmod_one]; exact ⟨trivial, trivial, trivial, trivial⟩
    · rw [e]
      have u : ∀ a : Int, (2 * a).tmod 2 = 0 := fun a => Int.mul_tmod_right _ _
      exact ⟨u _, u _, u _, u _⟩
  unfold Qd.rdok
  rw [r1, r2, r3, r4, key.1, key.2.1, key.2.2.1, key.2.2.2, t _ h1, t _ h2, t _ h3]
  rfl
theorem sq_small {a : Int} (h : a * a ≤ 4000003) : -2001 ≤ a ∧ a ≤ 2001 := by
  constructor
  · apply Int.not_lt.1; intro hc
    have := Int.mul_le_mul (show (2002 : Int) ≤ -a by omega) (show (2002 : Int) ≤ -a by omega) (by omega) (by omega)
    rw [Int.neg_mul_neg] at this
    omega
  · apply Int.not_lt.1; intro hc
    have := Int.mul_le_mul (show (2002 : Int) ≤ a by omega) (show (2002 : Int) ≤ a by omega) (by omega) (by omega)
    omega
theorem okb_toQ {h : Qt} (hz : Qt.Hz h) (hn : h.nrm ≤ 4000003) : h.toQ.okb = true := by
  have hn' : h.w * h.w + h.x * h.x + h.y * h.y + h.z * h.z ≤ 4000003 := hn
  have s0 := Qt.sq_nonneg h.w
  have s1 := Qt.sq_nonneg h.x
  have s2 := Qt.sq_nonneg h.y
  have s3 := Qt.sq_nonneg h.z
  obtain ⟨a0, a1⟩ := sq_small (show h.w * h.w ≤ 4000003 by omega)
  obtain ⟨b0, b1⟩ := sq_small (show h.x * h.x ≤ 4000003 by omega)
  obtain ⟨c0, c1⟩ := sq_small (show h.y * h.y ≤ 4000003 by omega)
  obtain ⟨d0, d1⟩ := sq_small (show h.z * h.z ≤ 4000003 by omega)
  unfold Qd.okb
  rw [decide_eq_true_iff]
  rcases Qt.toQ_cases hz with ⟨a, b, c, d, rfl, e⟩ | e
  · rw [e]; simp only at *; omega
  · rw [e]; simp only; omega
theorem oerr_toQ {h : Qt} (hz : Qt.Hz h) (hn : h.nrm ≤ 4000003) : h.toQ.oerr = 0 := by
  unfold Qd.oerr
  rw [if_pos (okb_toQ hz hn), if_pos (rdok_toQ hz), rdv_toQ hz, if_pos (by omega)]


theorem oerrL_one (x : Qd) : oerrL [x] = x.oerr := by
  simp only [oerrL]
  split
  · rename_i h; exact h.symm
  · rfl
end Go.Proofs.YthajaabgcbjfkaaGreat

namespace Go.Proofs.YthajaabgcbjfkaaGreat
open Go.RowKit
attribute [local go_sem ↓] Go.wp_at_zero Go.wp_at_succ

theorem gcd2_in (a b : Int) (ha : a.natAbs ≤ 4000000000000000000) (hb : b.natAbs ≤ 4000000000000000000) (w : World) (g cap : Nat) (hg : g < w.heap.size) (c0 : w.cell? ⟨g, 0, none⟩ = some (.int .i64 a)) (c1 : w.cell? ⟨g, 1, none⟩ = some (.int .i64 b)) :
    Calls Tryz.prog 79 #[.slice (some ⟨g, 0, none⟩) 2 cap] w fun e w' => e = .returned (.int .i64 (((gcdL [a, b] : Nat) : Int))) ∧ Below w.heap.size w w' := by
  refine gcd_any [a, b] g 0 cap w (by simp) (fun k x hx => ?_) hg (fun x hx => ?_)
  · rw [Nat.zero_add]
    match k with
    | 0 => simp only [List.getElem?_cons_zero, Option.some.injEq] at hx; subst hx; exact c0
    | 1 => simp only [List.getElem?_cons_succ, List.getElem?_cons_zero, Option.some.injEq] at hx; subst hx; exact c1
    | k + 2 => simp at hx
  · simp only [List.mem_cons, List.not_mem_nil, or_false] at hx
    rcases hx with rfl | rfl <;> assumption

set_option maxRecDepth 10000 in
set_option maxHeartbeats 4000000 in
theorem exch_walk (X Y Z N S T : Qt) (n : Int)
    (ct : ∀ w, Calls Tryz.prog 45 #[.agg #[.int .i64 X.w, .int .i64 X.x, .int .i64 X.y, .int .i64 X.z], .agg #[.int .i64 Y.w, .int .i64 Y.x, .int .i64 Y.y, .int .i64 Y.z]] w fun e w' => e = .returned (.agg #[.int .i64 Z.w, .int .i64 Z.x, .int .i64 Z.y, .int .i64 Z.z]) ∧ Below w.heap.size w w')
    (cn : ∀ w, Calls Tryz.prog 20 #[.agg #[.int .i64 Y.w, .int .i64 Y.x, .int .i64 Y.y, .int .i64 Y.z]] w fun e w' => e = .returned (.int .i64 n) ∧ Below w.heap.size w w')
    (cm : ∀ w, Calls Tryz.prog 47 #[.int .i64 n] w fun e w' => e = .returned (.agg #[.int .i64 N.w, .int .i64 N.x, .int .i64 N.y, .int .i64 N.z]) ∧ Below w.heap.size w w')
    (cc : ∀ w, Calls Tryz.prog 46 #[.agg #[.int .i64 Z.w, .int .i64 Z.x, .int .i64 Z.y, .int .i64 Z.z], .agg #[.int .i64 N.w, .int .i64 N.x, .int .i64 N.y, .int .i64 N.z]] w fun e w' => e = .returned (.agg #[.int .i64 S.w, .int .i64 S.x, .int .i64 S.y, .int .i64 S.z]) ∧ Below w.heap.size w w')
    (cb : ∀ w, Calls Tryz.prog 48 #[.agg #[.int .i64 Z.w, .int .i64 Z.x, .int .i64 Z.y, .int .i64 Z.z], .agg #[.int .i64 S.w, .int .i64 S.x, .int .i64 S.y, .int .i64 S.z]] w fun e w' => e = .returned (.agg #[.int .i64 T.w, .int .i64 T.x, .int .i64 T.y, .int .i64 T.z]) ∧ Below w.heap.size w w') (w : World) :
    Calls Tryz.prog 23 #[.agg #[.int .i64 X.w, .int .i64 X.x, .int .i64 X.y, .int .i64 X.z], .agg #[.int .i64 Y.w, .int .i64 Y.x, .int .i64 Y.y, .int .i64 Y.z]] w fun e w' => e = .returned (.tuple #[.agg #[.int .i64 S.w, .int .i64 S.x, .int .i64 S.y, .int .i64 S.z], .agg #[.int .i64 T.w, .int .i64 T.x, .int .i64 T.y, .int .i64 T.z]]) ∧ Below w.heap.size w w' := by
  have CT := Lib.hid ct; have CN := Lib.hid cn; have CM := Lib.hid cm; have CC := Lib.hid cc; have CB := Lib.hid cb
  clear ct cn cm cc cb
  go_enter Tryz.func23, Tryz.ntmps23
  go_wp2_with (first | (go_at_call 45; with_reducible refine (CT.out _).mono ?_; rintro e w1 ⟨rfl, hb1⟩; obtain ⟨g1, rfl⟩ := more_of_below hb1; clear hb1))
  (apply Own2.wp_region_own2 6 [.inl _, .inl _, .inl _, .inl _, .inl _, .inr (.cells #[.int .i64 0, .int .i64 0, .int .i64 0, .int .i64 0] 60, fun b => .pointer (some ⟨b, 0, none⟩))] (by kernel_rfl) (by kernel_rfl); simp only [List.take_succ_cons, List.take_zero, List.drop_succ_cons, List.drop_zero]; (refine Own2.lexM_val rfl (fun K hK => ?_); go_simp; (try go_bits); refine ⟨fun w' hw' hcb' => ?_, hK _ ?_⟩; (focus (first | with_reducible exact rfl | (go_at_call 20; (with_reducible exact CN.out _)) | (go_at_call 47; (with_reducible exact CM.out _)) | (go_at_call 46; (with_reducible exact CC.out _)) | (obtain ⟨gx, rfl⟩ := more_of_below (Ext.below hw'); go_simp; exact rfl))); clear hK K); (refine Own2.lexM_val rfl (fun K hK => ?_); go_simp; (try go_bits); refine ⟨fun w' hw' hcb' => ?_, hK _ ?_⟩; (focus (first | with_reducible exact rfl | (go_at_call 20; (with_reducible exact CN.out _)) | (go_at_call 47; (with_reducible exact CM.out _)) | (go_at_call 46; (with_reducible exact CC.out _)) | (obtain ⟨gx, rfl⟩ := more_of_below (Ext.below hw'); go_simp; exact rfl))); clear hK K); (refine Own2.lexM_val rfl (fun K hK => ?_); go_simp; (try go_bits); refine ⟨fun w' hw' hcb' => ?_, hK _ ?_⟩; (focus (first | with_reducible exact rfl | (go_at_call 20; (with_reducible exact CN.out _)) | (go_at_call 47; (with_reducible exact CM.out _)) | (go_at_call 46; (with_reducible exact CC.out _)) | (obtain ⟨gx, rfl⟩ := more_of_below (Ext.below hw'); go_simp; exact rfl))); clear hK K); (refine Own2.lexM_val rfl (fun K hK => ?_); go_simp; (try go_bits); refine ⟨fun w' hw' hcb' => ?_, hK _ ?_⟩; (focus (first | with_reducible exact rfl | (go_at_call 20; (with_reducible exact CN.out _)) | (go_at_call 47; (with_reducible exact CM.out _)) | (go_at_call 46; (with_reducible exact CC.out _)) | (obtain ⟨gx, rfl⟩ := more_of_below (Ext.below hw'); go_simp; exact rfl))); clear hK K); (refine Own2.lexM_val rfl (fun K hK => ?_); go_simp; (try go_bits); refine ⟨fun w' hw' hcb' => ?_, hK _ ?_⟩; (focus (first | with_reducible exact rfl | (go_at_call 20; (with_reducible exact CN.out _)) | (go_at_call 47; (with_reducible exact CM.out _)) | (go_at_call 46; (with_reducible exact CC.out _)) | (obtain ⟨gx, rfl⟩ := more_of_below (Ext.below hw'); go_simp; exact rfl))); clear hK K); (refine Own2.lexM_mem rfl ?_ (fun w => by first | rfl | (go_simp; rfl) | (go_simp; done)) (fun b21 hb21 hn21 => ?_); (focus (first | rfl | (go_simp <;> rfl) | decide)); simp only [Act.put, List.setIfInBounds_toArray, List.set_cons_succ, List.set_cons_zero]); intro w2 hw2; have hB2 := hw2.1; have hO21 := (hw2.2 _ b21 _ (Or.inl ⟨rfl, rfl, rfl⟩)).2; clear hw2; obtain ⟨g2, g2', hE2, rfl⟩ := split_block hB2 hb21 hO21; clear hB2 hb21 hO21; (try clear hn21); (repeat (first | simp only [size_more_eq] at hE2 | simp only [World.size_alloc] at hE2)); subst hE2)
  go_wp2_with fail
  (refine wp_region_calm_tail 4 (Ext _) (by kernel_rfl) (by kernel_rfl) (Ext.start _) ?_; simp only [List.take_succ_cons, List.take_zero, List.drop_succ_cons, List.drop_zero]; (repeat (refine wpQuiet_step (fun K hK => ?_); go_simp; (try go_bits); apply Exists.intro; refine ⟨fun w' hw' => ?_, hK _ ?_⟩; (focus (first | with_reducible exact rfl | (go_at_call 48; (with_reducible exact Ext.call hw' (CB.out _))) | (obtain ⟨gx, rfl⟩ := more_of_below (Ext.below hw'); go_simp; exact rfl))); clear hK K)); refine wpQuiet_nil ?_; intro w3 hw3; have hb3 := Ext.below hw3; clear hw3; obtain ⟨g3, rfl⟩ := more_of_below hb3; clear hb3)
  go_wp2
  refine bodyPost_ret (v := .tuple #[.agg #[.int .i64 S.w, .int .i64 S.x, .int .i64 S.y, .int .i64 S.z], .agg #[.int .i64 T.w, .int .i64 T.x, .int .i64 T.y, .int .i64 T.z]]) (by simp [results, Tryz.results23, go_sem]) rfl ⟨rfl, by (repeat (first | with_reducible assumption | with_reducible exact Below.refl _ _ | with_reducible refine Below.drewN ?_ _ | with_reducible refine Below.drew ?_ | with_reducible refine Below.alloc ?_ (by first | omega | (simp; done) | (simp; omega)) _ | with_reducible refine Below.setCell ?_ (by first | omega | (simp; done) | (simp; omega)) _ | with_reducible refine below_more _ _ ?_ (by first | omega | (simp; done) | (simp; omega))))⟩
set_option maxHeartbeats 400000 in
theorem rwhole_in (n : Int) (h0 : 0 ≤ n) (h1 : n ≤ 1000000000) (w : World) :
    Calls Tryz.prog 55 #[.int .i64 n] w fun e w' => e = .returned (.agg #[.int .i64 (2 * n), .int .i64 0, .int .i64 0, .int .i64 0]) ∧ Below w.heap.size w w' := by
  go_enter Tryz.func55, Tryz.ntmps55
  go_wp2
  refine bodyPost_ret (v := .agg #[.int .i64 (2 * n), .int .i64 0, .int .i64 0, .int .i64 0]) (by simp [results, Tryz.results55, go_sem]) rfl ⟨rfl, ?_⟩
  (repeat (first | with_reducible assumption | with_reducible exact Below.refl _ _ | with_reducible refine Below.drewN ?_ _ | with_reducible refine Below.drew ?_ | with_reducible refine Below.alloc ?_ (by first | omega | (simp; done) | (simp; omega)) _ | with_reducible refine Below.setCell ?_ (by first | omega | (simp; done) | (simp; omega)) _ | with_reducible refine below_more _ _ ?_ (by first | omega | (simp; done) | (simp; omega))))
set_option maxRecDepth 10000 in
set_option maxHeartbeats 4000000 in
theorem rexch_walk (X Y Z N S T : Qt) (n : Int)
    (ct : ∀ w, Calls Tryz.prog 53 #[.agg #[.int .i64 X.w, .int .i64 X.x, .int .i64 X.y, .int .i64 X.z], .agg #[.int .i64 Y.w, .int .i64 Y.x, .int .i64 Y.y, .int .i64 Y.z]] w fun e w' => e = .returned (.agg #[.int .i64 Z.w, .int .i64 Z.x, .int .i64 Z.y, .int .i64 Z.z]) ∧ Below w.heap.size w w')
    (cn : ∀ w, Calls Tryz.prog 10 #[.agg #[.int .i64 Y.w, .int .i64 Y.x, .int .i64 Y.y, .int .i64 Y.z]] w fun e w' => e = .returned (.int .i64 n) ∧ Below w.heap.size w w')
    (cm : ∀ w, Calls Tryz.prog 55 #[.int .i64 n] w fun e w' => e = .returned (.agg #[.int .i64 N.w, .int .i64 N.x, .int .i64 N.y, .int .i64 N.z]) ∧ Below w.heap.size w w')
    (cc : ∀ w, Calls Tryz.prog 54 #[.agg #[.int .i64 Z.w, .int .i64 Z.x, .int .i64 Z.y, .int .i64 Z.z], .agg #[.int .i64 N.w, .int .i64 N.x, .int .i64 N.y, .int .i64 N.z]] w fun e w' => e = .returned (.agg #[.int .i64 S.w, .int .i64 S.x, .int .i64 S.y, .int .i64 S.z]) ∧ Below w.heap.size w w')
    (cb : ∀ w, Calls Tryz.prog 56 #[.agg #[.int .i64 Z.w, .int .i64 Z.x, .int .i64 Z.y, .int .i64 Z.z], .agg #[.int .i64 S.w, .int .i64 S.x, .int .i64 S.y, .int .i64 S.z]] w fun e w' => e = .returned (.tuple #[.agg #[.int .i64 T.w, .int .i64 T.x, .int .i64 T.y, .int .i64 T.z], .bool true]) ∧ Below w.heap.size w w') (w : World) :
    Calls Tryz.prog 28 #[.agg #[.int .i64 X.w, .int .i64 X.x, .int .i64 X.y, .int .i64 X.z], .agg #[.int .i64 Y.w, .int .i64 Y.x, .int .i64 Y.y, .int .i64 Y.z]] w fun e w' => e = .returned (.tuple #[.agg #[.int .i64 S.w, .int .i64 S.x, .int .i64 S.y, .int .i64 S.z], .agg #[.int .i64 T.w, .int .i64 T.x, .int .i64 T.y, .int .i64 T.z]]) ∧ Below w.heap.size w w' := by
  have CT := Lib.hid ct; have CN := Lib.hid cn; have CM := Lib.hid cm; have CC := Lib.hid cc; have CB := Lib.hid cb
  clear ct cn cm cc cb
  go_enter Tryz.func28, Tryz.ntmps28
  go_wp2_with (first | (go_at_call 53; with_reducible refine (CT.out _).mono ?_; rintro e w1 ⟨rfl, hb1⟩; obtain ⟨g1, rfl⟩ := more_of_below hb1; clear hb1))
  (apply Own2.wp_region_own2 6 [.inl _, .inl _, .inl _, .inl _, .inl _, .inr (.cells #[.int .i64 0, .int .i64 0, .int .i64 0, .int .i64 0] 32, fun b => .pointer (some ⟨b, 0, none⟩))] (by kernel_rfl) (by kernel_rfl); simp only [List.take_succ_cons, List.take_zero, List.drop_succ_cons, List.drop_zero]; (refine Own2.lexM_val rfl (fun K hK => ?_); go_simp; (try go_bits); refine ⟨fun w' hw' hcb' => ?_, hK _ ?_⟩; (focus (first | with_reducible exact rfl | (go_at_call 10; (with_reducible exact CN.out _)) | (go_at_call 55; (with_reducible exact CM.out _)) | (go_at_call 54; (with_reducible exact CC.out _)) | (obtain ⟨gx, rfl⟩ := more_of_below (Ext.below hw'); go_simp; exact rfl))); clear hK K); (refine Own2.lexM_val rfl (fun K hK => ?_); go_simp; (try go_bits); refine ⟨fun w' hw' hcb' => ?_, hK _ ?_⟩; (focus (first | with_reducible exact rfl | (go_at_call 10; (with_reducible exact CN.out _)) | (go_at_call 55; (with_reducible exact CM.out _)) | (go_at_call 54; (with_reducible exact CC.out _)) | (obtain ⟨gx, rfl⟩ := more_of_below (Ext.below hw'); go_simp; exact rfl))); clear hK K); (refine Own2.lexM_val rfl (fun K hK => ?_); go_simp; (try go_bits); refine ⟨fun w' hw' hcb' => ?_, hK _ ?_⟩; (focus (first | with_reducible exact rfl | (go_at_call 10; (with_reducible exact CN.out _)) | (go_at_call 55; (with_reducible exact CM.out _)) | (go_at_call 54; (with_reducible exact CC.out _)) | (obtain ⟨gx, rfl⟩ := more_of_below (Ext.below hw'); go_simp; exact rfl))); clear hK K); (refine Own2.lexM_val rfl (fun K hK => ?_); go_simp; (try go_bits); refine ⟨fun w' hw' hcb' => ?_, hK _ ?_⟩; (focus (first | with_reducible exact rfl | (go_at_call 10; (with_reducible exact CN.out _)) | (go_at_call 55; (with_reducible exact CM.out _)) | (go_at_call 54; (with_reducible exact CC.out _)) | (obtain ⟨gx, rfl⟩ := more_of_below (Ext.below hw'); go_simp; exact rfl))); clear hK K); (refine Own2.lexM_val rfl (fun K hK => ?_); go_simp; (try go_bits); refine ⟨fun w' hw' hcb' => ?_, hK _ ?_⟩; (focus (first | with_reducible exact rfl | (go_at_call 10; (with_reducible exact CN.out _)) | (go_at_call 55; (with_reducible exact CM.out _)) | (go_at_call 54; (with_reducible exact CC.out _)) | (obtain ⟨gx, rfl⟩ := more_of_below (Ext.below hw'); go_simp; exact rfl))); clear hK K); (refine Own2.lexM_mem rfl ?_ (fun w => by first | rfl | (go_simp; rfl) | (go_simp; done)) (fun b21 hb21 hn21 => ?_); (focus (first | rfl | (go_simp <;> rfl) | decide)); simp only [Act.put, List.setIfInBounds_toArray, List.set_cons_succ, List.set_cons_zero]); intro w2 hw2; have hB2 := hw2.1; have hO21 := (hw2.2 _ b21 _ (Or.inl ⟨rfl, rfl, rfl⟩)).2; clear hw2; obtain ⟨g2, g2', hE2, rfl⟩ := split_block hB2 hb21 hO21; clear hB2 hb21 hO21; (try clear hn21); (repeat (first | simp only [size_more_eq] at hE2 | simp only [World.size_alloc] at hE2)); subst hE2)
  go_wp2_with (first | (go_at_call 56; with_reducible refine (CB.out _).mono ?_; rintro e w3 ⟨rfl, hb3⟩; obtain ⟨g3, rfl⟩ := more_of_below hb3; clear hb3))
  go_region
  go_wp2
  refine bodyPost_ret (v := .tuple #[.agg #[.int .i64 S.w, .int .i64 S.x, .int .i64 S.y, .int .i64 S.z], .agg #[.int .i64 T.w, .int .i64 T.x, .int .i64 T.y, .int .i64 T.z]]) (by simp [results, Tryz.results28, go_sem]) rfl ⟨rfl, by (repeat (first | with_reducible assumption | with_reducible exact Below.refl _ _ | with_reducible refine Below.drewN ?_ _ | with_reducible refine Below.drew ?_ | with_reducible refine Below.alloc ?_ (by first | omega | (simp; done) | (simp; omega)) _ | with_reducible refine Below.setCell ?_ (by first | omega | (simp; done) | (simp; omega)) _ | with_reducible refine below_more _ _ ?_ (by first | omega | (simp; done) | (simp; omega))))⟩
end Go.Proofs.YthajaabgcbjfkaaGreat

namespace Go.Proofs.YthajaabgcbjfkaaGreat
open Go.RowKit
attribute [local go_sem ↓] Go.wp_at_zero Go.wp_at_succ


/-- What both sides compute, and what stands in the statement. -/
theorem exch_both {X Y : Qt} (hX : Qt.Hz X) (hY : Qt.Hz Y) (bX : X.nrm ≤ 4000000) (bY : Y.nrm ≤ 4000000) (h1 : 1 ≤ X.nrm / 4) (h2 : 1 ≤ Y.nrm / 4) (hl : X.nrm / 4 * (Y.nrm / 4) ≤ 1000000) (hg : Int.gcd (X.nrm / 4) (Y.nrm / 4) = 1) :
    ∃ s t : Qt, Qt.Hz s ∧ Qt.Hz t ∧ s.nrm = Y.nrm ∧ t.nrm = X.nrm ∧ Qt.hm s t = Qt.hm X Y ∧
      (∀ w, Calls Tryz.prog 23 #[.agg #[.int .i64 X.w, .int .i64 X.x, .int .i64 X.y, .int .i64 X.z], .agg #[.int .i64 Y.w, .int .i64 Y.x, .int .i64 Y.y, .int .i64 Y.z]] w fun e w' => e = .returned (.tuple #[.agg #[.int .i64 s.w, .int .i64 s.x, .int .i64 s.y, .int .i64 s.z], .agg #[.int .i64 t.w, .int .i64 t.x, .int .i64 t.y, .int .i64 t.z]]) ∧ Below w.heap.size w w') ∧
      (∀ w, Calls Tryz.prog 28 #[.agg #[.int .i64 X.w, .int .i64 X.x, .int .i64 X.y, .int .i64 X.z], .agg #[.int .i64 Y.w, .int .i64 Y.x, .int .i64 Y.y, .int .i64 Y.z]] w fun e w' => e = .returned (.tuple #[.agg #[.int .i64 s.w, .int .i64 s.x, .int .i64 s.y, .int .i64 s.z], .agg #[.int .i64 t.w, .int .i64 t.x, .int .i64 t.y, .int .i64 t.z]]) ∧ Below w.heap.size w w') := by
  obtain ⟨hs, t, ht, e1, e2, e3⟩ := Qt.exch_plain hX hY h1 h2 hg
  have hZ := Qt.hz_hm hX hY
  have zn := Qt.hm_nrm hX hY
  have m1 := Qt.hz_nrm hX
  have m2 := Qt.hz_nrm hY
  have zb : (Qt.hm X Y).nrm ≤ 4000000 := by
    have f : X.nrm * Y.nrm = 16 * (X.nrm / 4 * (Y.nrm / 4)) := by
      have f1 : X.nrm = 4 * (X.nrm / 4) := by omega
      have f2 : Y.nrm = 4 * (Y.nrm / 4) := by omega
      generalize X.nrm / 4 = a at *
      generalize Y.nrm / 4 = b at *
      rw [f1, f2]; grind
    omega
  have nb : Qt.nrm ⟨2 * (Y.nrm / 4), 0, 0, 0⟩ ≤ 4000000000000 := by
    rw [Qt.nrm_num]
    have := Int.mul_le_mul (show Y.nrm / 4 ≤ 1000000 by omega) (show Y.nrm / 4 ≤ 1000000 by omega) (by omega) (by omega)
    omega
  have cc := common_hz (Qt.hm X Y) ⟨2 * (Y.nrm / 4), 0, 0, 0⟩ hZ (Qt.hz_num _) (by omega) nb
  have rc := rgcd_in (Qt.hm X Y) ⟨2 * (Y.nrm / 4), 0, 0, 0⟩ hZ (Qt.hz_num _) (by omega) nb
  generalize gcdQ (Qt.hm X Y) ⟨2 * (Y.nrm / 4), 0, 0, 0⟩ = s at *
  have xy : (X.mul Y).InR := Qt.inR_of_nrm (by rw [Qt.nrm_mul]; omega)
  have ct := htimes_in X Y xy
  have rt := rtimes_in X Y xy
  rw [Qt.hm_eq] at ct rt
  have sz : (s.conj.mul (Qt.hm X Y)).InR := Qt.inR_of_nrm (by
    rw [Qt.nrm_mul, Qt.nrm_conj, e2]
    have := Int.mul_le_mul bY zb (Qt.nrm_nonneg _) (by omega)
    omega)
  have cb := before_in (Qt.hm X Y) s (Qt.inR_of_nrm (by omega)) (by omega) (by omega) sz
  have bp := Qt.before_plain hs ht (by omega)
  rw [← e1] at bp
  rw [bp] at cb
  have rl := rleft_ok s t hs ht (by omega) (by omega) (by omega)
  rw [← e1] at rl
  exact ⟨s, t, hs, ht, e2, e3, e1.symm, exch_walk X Y _ ⟨2 * (Y.nrm / 4), 0, 0, 0⟩ s t _ ct (hnorm_any Y (by omega)) (number_in _ (by omega) (by omega)) cc cb,
    rexch_walk X Y _ ⟨2 * (Y.nrm / 4), 0, 0, 0⟩ s t _ rt (rnorm_in Y (by omega)) (rwhole_in _ (by omega) (by omega)) rc rl⟩
end Go.Proofs.YthajaabgcbjfkaaGreat
