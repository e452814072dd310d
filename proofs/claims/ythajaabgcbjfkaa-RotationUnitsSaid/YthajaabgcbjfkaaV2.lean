/- Contract: Divide. -/
import Derived.Test.YthajaabgcbjfkaaV1
import Derived.Deep.RegionWith
import Derived.Deep.DrawnRows
import Derived.Deep.DeepCutAuto
namespace Go.Proofs.Ythajaabgcbjfkaa
open Go.RowKit
attribute [local go_sem ↓] Go.wp_at_zero Go.wp_at_succ

theorem more_of_below' {B : Nat} {W w : World} (h : Below B W w) (hB : B = W.heap.size) : ∃ g, w = more W g := by subst hB; exact more_of_below h

set_option maxRecDepth 10000 in
set_option maxHeartbeats 2000000 in
theorem divide_err (x y : Qd) (w : World) (h : oerrL [x, y] ≠ 0) :
    Calls Try.prog 15 #[.agg #[.int .i64 x.w, .int .i64 x.x, .int .i64 x.y, .int .i64 x.z, .int .i64 x.d], .agg #[.int .i64 y.w, .int .i64 y.x, .int .i64 y.y, .int .i64 y.z, .int .i64 y.d]] w fun e w' => e = .returned (.tuple #[.agg #[.int .i64 0, .int .i64 0, .int .i64 0, .int .i64 0, .int .i64 0, .int .i64 0, .int .i64 0, .int .i64 0, .int .i64 0, .int .i64 0], .int .i64 (oerrL [x, y])]) ∧ Below w.heap.size w w' := by
  go_enter Try.func15, Try.ntmps15
  go_wp2_with (first | (go_at_call 64; with_reducible refine (open_err2 x y _ h (by simp)).mono ?_; rintro e w1 ⟨rfl, hb1⟩; obtain ⟨g1, rfl⟩ := more_of_below hb1; clear hb1))
  refine bodyPost_ret (v := .tuple #[.agg #[.int .i64 0, .int .i64 0, .int .i64 0, .int .i64 0, .int .i64 0, .int .i64 0, .int .i64 0, .int .i64 0, .int .i64 0, .int .i64 0], .int .i64 (oerrL [x, y])]) (by simp [results, Try.results15, go_sem]) rfl ⟨rfl, by (repeat (first | with_reducible assumption | with_reducible exact Below.refl _ _ | with_reducible refine Below.drewN ?_ _ | with_reducible refine Below.drew ?_ | with_reducible refine Below.alloc ?_ (by first | omega | (simp; done) | (simp; omega)) _ | with_reducible refine Below.setCell ?_ (by first | omega | (simp; done) | (simp; omega)) _ | with_reducible refine below_more _ _ ?_ (by first | omega | (simp; done) | (simp; omega))))⟩

set_option maxRecDepth 10000 in
set_option maxHeartbeats 2000000 in
theorem divide_zero (x y : Qd) (w : World) (h : oerrL [x, y] = 0) (hz : y.rdv.eqb ⟨0, 0, 0, 0⟩ = true) :
    Calls Try.prog 15 #[.agg #[.int .i64 x.w, .int .i64 x.x, .int .i64 x.y, .int .i64 x.z, .int .i64 x.d], .agg #[.int .i64 y.w, .int .i64 y.x, .int .i64 y.y, .int .i64 y.z, .int .i64 y.d]] w fun e w' => e = .returned (.tuple #[.agg #[.int .i64 0, .int .i64 0, .int .i64 0, .int .i64 0, .int .i64 0, .int .i64 0, .int .i64 0, .int .i64 0, .int .i64 0, .int .i64 0], .int .i64 10]) ∧ Below w.heap.size w w' := by
  go_enter Try.func15, Try.ntmps15
  go_wp2_with (first | (go_at_call 64; with_reducible refine (open_ok2 x y _ h (by simp)).mono ?_; rintro e w1 ⟨g, cap, rfl, ⟨hg, hx, ⟨c0, c1, c2, c3⟩⟩, hb1⟩; obtain ⟨g1, rfl⟩ := more_of_below hb1; clear hb1) | (go_at_call 65; with_reducible refine (hzero_any _ _).mono ?_; rintro e w2 ⟨rfl, hb2⟩; obtain ⟨g2, rfl⟩ := more_of_below hb2; clear hb2))
  refine bodyPost_ret (v := .tuple #[.agg #[.int .i64 0, .int .i64 0, .int .i64 0, .int .i64 0, .int .i64 0, .int .i64 0, .int .i64 0, .int .i64 0, .int .i64 0, .int .i64 0], .int .i64 10]) (by simp [results, Try.results15, go_sem]) rfl ⟨rfl, by (repeat (first | with_reducible assumption | with_reducible exact Below.refl _ _ | with_reducible refine Below.drewN ?_ _ | with_reducible refine Below.drew ?_ | with_reducible refine Below.alloc ?_ (by first | omega | (simp; done) | (simp; omega)) _ | with_reducible refine Below.setCell ?_ (by first | omega | (simp; done) | (simp; omega)) _ | with_reducible refine below_more _ _ ?_ (by first | omega | (simp; done) | (simp; omega))))⟩

set_option maxRecDepth 10000 in
set_option maxHeartbeats 4000000 in
theorem divide_ok (x y : Qd) (w : World) (h : oerrL [x, y] = 0) (hz : y.rdv.eqb ⟨0, 0, 0, 0⟩ = false) (q r : Qt) (iq : q.InR) (ir : r.InR)
    (hD : ∀ w, Calls Try.prog 66 #[.agg #[.int .i64 x.rdv.w, .int .i64 x.rdv.x, .int .i64 x.rdv.y, .int .i64 x.rdv.z], .agg #[.int .i64 y.rdv.w, .int .i64 y.rdv.x, .int .i64 y.rdv.y, .int .i64 y.rdv.z]] w fun e w' => e = .returned (.tuple #[.agg #[.int .i64 q.w, .int .i64 q.x, .int .i64 q.y, .int .i64 q.z], .agg #[.int .i64 r.w, .int .i64 r.x, .int .i64 r.y, .int .i64 r.z]]) ∧ Below w.heap.size w w') :
    Calls Try.prog 15 #[.agg #[.int .i64 x.w, .int .i64 x.x, .int .i64 x.y, .int .i64 x.z, .int .i64 x.d], .agg #[.int .i64 y.w, .int .i64 y.x, .int .i64 y.y, .int .i64 y.z, .int .i64 y.d]] w fun e w' => e = .returned (.tuple #[.agg #[.int .i64 q.toQ.w, .int .i64 q.toQ.x, .int .i64 q.toQ.y, .int .i64 q.toQ.z, .int .i64 q.toQ.d, .int .i64 r.toQ.w, .int .i64 r.toQ.x, .int .i64 r.toQ.y, .int .i64 r.toQ.z, .int .i64 r.toQ.d], .int .i64 0]) ∧ Below w.heap.size w w' := by
  go_enter Try.func15, Try.ntmps15
  go_upto_region 6 with (first | (go_at_call 64; with_reducible refine (open_ok2 x y _ h (by simp)).mono ?_; rintro e w1 ⟨g, cap, rfl, ⟨hg, hx, hy⟩, hb1⟩; obtain ⟨g1, rfl⟩ := more_of_below hb1; clear hb1; simp only [size_more_eq, World.size_alloc] at hg; obtain ⟨c0, c1, c2, c3⟩ := hy) | (go_at_call 65; with_reducible refine (hzero_any _ _).mono ?_; rintro e w2 ⟨rfl, hb2⟩; obtain ⟨g2, rfl⟩ := more_of_below hb2; clear hb2))
  obtain ⟨hx0, hx1, hx2, hx3⟩ := hx
  go_cut [8, 9] (fun s8 s9 wx => Below (w.heap.size + 4) ((((w.alloc (.cells #[.int .i64 x.w, .int .i64 x.x, .int .i64 x.y, .int .i64 x.z, .int .i64 x.d] 23)).alloc (.cells #[.int .i64 y.w, .int .i64 y.x, .int .i64 y.y, .int .i64 y.z, .int .i64 y.d] 23)).alloc (.cells #[.int .i64 0, .int .i64 0, .int .i64 0, .int .i64 0, .int .i64 0, .int .i64 0, .int .i64 0, .int .i64 0, .int .i64 0, .int .i64 0] 26)).alloc (.cells #[.int .i64 x.w, .int .i64 x.x, .int .i64 x.y, .int .i64 x.z, .int .i64 x.d, .int .i64 y.w, .int .i64 y.x, .int .i64 y.y, .int .i64 y.z, .int .i64 y.d] 23)) wx ∧ ∃ b8 b9, s8 = .pointer (some ⟨b8, 0, none⟩) ∧ s9 = .pointer (some ⟨b9, 0, none⟩) ∧ H4 wx b8 0 q ∧ H4 wx b9 0 r ∧ b8 < wx.heap.size ∧ b9 < wx.heap.size)
  case first =>
    go_region_with ((go_at_call 66; with_reducible refine (hD _).mono ?_; rintro e w' ⟨rfl, hb9⟩; obtain ⟨g9, rfl⟩ := more_of_below hb9; clear hb9))
    all_goals (clear hx0 hx1 hx2 hx3 c0 c1 c2 c3 hD)
    all_goals (go_wp2_with fail; go_meet; refine ⟨by (repeat (first | with_reducible assumption | with_reducible exact Below.refl _ _ | with_reducible refine Below.drewN ?_ _ | with_reducible refine Below.drew ?_ | with_reducible refine Below.alloc ?_ (by first | omega | (simp; done) | (simp; omega)) _ | with_reducible refine Below.setCell ?_ (by first | omega | (simp; done) | (simp; omega)) _ | with_reducible refine below_more _ _ ?_ (by first | omega | (simp; done) | (simp; omega)))), _, _, rfl, rfl, ⟨?_, ?_, ?_, ?_⟩, ⟨?_, ?_, ?_, ?_⟩, ?_, ?_⟩)
    all_goals (first | (go_simp; done) | (simp only [size_more_eq, World.size_alloc, World.size_setCell]; omega) | (simp; omega))
  case rest =>
    clear hx0 hx1 hx2 hx3 c0 c1 c2 c3 hD
    obtain ⟨hb, b8, b9, rfl, rfl, ⟨c0, c1, c2, c3⟩, ⟨d0, d1, d2, d3⟩, l8, l9⟩ := hcut
    obtain ⟨gc, rfl⟩ := more_of_below' hb (by simp)
    simp only [size_more_eq, World.size_alloc] at l8 l9
    go_wp2_with fail
    (refine wp_region_calm_tail 5 (Ext _) (by kernel_rfl) (by kernel_rfl) (Ext.start _) ?_; simp only [List.take_succ_cons, List.take_zero, List.drop_succ_cons, List.drop_zero]; (repeat (refine wpQuiet_step (fun K hK => ?_); go_simp; (try go_bits); apply Exists.intro; refine ⟨fun w' hw' => ?_, hK _ ?_⟩; (focus (first | with_reducible exact rfl | (go_at_call 67; (first | with_reducible exact Ext.call hw' (quat_in _ iq _) | with_reducible exact Ext.call hw' (quat_in _ ir _))) | (obtain ⟨gx, rfl⟩ := more_of_below (Ext.below hw'); go_simp; exact rfl))); clear hK K)); refine wpQuiet_nil ?_; intro w4 hw4; have hb4 := Ext.below hw4; clear hw4; obtain ⟨g4, rfl⟩ := more_of_below hb4; clear hb4)
    go_wp2
    refine bodyPost_ret (v := .tuple #[.agg #[.int .i64 q.toQ.w, .int .i64 q.toQ.x, .int .i64 q.toQ.y, .int .i64 q.toQ.z, .int .i64 q.toQ.d, .int .i64 r.toQ.w, .int .i64 r.toQ.x, .int .i64 r.toQ.y, .int .i64 r.toQ.z, .int .i64 r.toQ.d], .int .i64 0]) (by simp [results, Try.results15, go_sem]) rfl ⟨rfl, ?_⟩
    (repeat (first | with_reducible assumption | with_reducible exact Below.refl _ _ | with_reducible refine Below.drewN ?_ _ | with_reducible refine Below.drew ?_ | with_reducible refine Below.alloc ?_ (by first | omega | (simp; done) | (simp; omega)) _ | with_reducible refine Below.setCell ?_ (by first | omega | (simp; done) | (simp; omega)) _ | with_reducible refine below_more _ _ ?_ (by first | omega | (simp; done) | (simp; omega))))
end Go.Proofs.Ythajaabgcbjfkaa
