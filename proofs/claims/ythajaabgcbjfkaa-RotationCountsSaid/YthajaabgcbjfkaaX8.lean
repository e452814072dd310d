/- The law RotationFactors: the walk. Printed by genx8.py. -/
import Derived.Test.YthajaabgcbjfkaaX6
import Derived.Test.YthajaabgcbjfkaaX7
import Derived.Test.YthajaabgcbjfkaaW1
import Derived.Test.YthajaabgcbjfkaaR4
import Derived.Deep.CutRange
namespace Go.Proofs.Ythajaabgcbjfkaa
open Go.RowKit Go.BigFrame
attribute [local go_sem ↓] Go.wp_at_zero Go.wp_at_succ

/-- A row of the reference's quaternions. -/
structure HRow (w : World) (g : Nat) (l : List Qt) : Prop where
  lt : g < w.heap.size
  at_ : ∀ (k : Nat) (q : Qt), l[k]? = some q → H4 w g k q
theorem HRow.low {B : Nat} {w w' : World} {g : Nat} {l : List Qt} (h : HRow w g l) (hb : Below B w w') (hB : w.heap.size ≤ B) : HRow w' g l :=
  ⟨Nat.lt_of_lt_of_le h.lt hb.size, fun k q hq => (h.at_ k q hq).below hb (Nat.lt_of_lt_of_le h.lt hB)⟩
theorem HRow.mor {W : World} {g : Nat} {l : List Qt} (h : HRow W g l) (x : Nat × Array Obj) : HRow (more W x) g l :=
  h.low (below_more W x (Below.refl _ _) (Nat.le_refl _)) (Nat.le_refl _)
theorem HRow.alloc {W : World} {g : Nat} {l : List Qt} (h : HRow W g l) (o : Obj) : HRow (W.alloc o) g l :=
  h.low (B := W.heap.size) (Below.alloc (Below.refl _ _) (Nat.le_refl _) _) (Nat.le_refl _)
theorem HRow.setCell {W : World} {g : Nat} {l : List Qt} (h : HRow W g l) {b o : Nat} (hb : b ≠ g) (u : Value) : HRow (W.setCell ⟨b, o, none⟩ u) g l := by
  have e : ∀ j, (W.setCell ⟨b, o, none⟩ u).cell? ⟨g, j, none⟩ = W.cell? ⟨g, j, none⟩ := fun j => World.cell?_setCell_other _ _ _ _ (fun h => hb (congrArg Addr.block h))
  exact ⟨by simpa using h.lt, fun k q hq => ⟨(e _).trans (h.at_ k q hq).c0, (e _).trans (h.at_ k q hq).c1, (e _).trans (h.at_ k q hq).c2, (e _).trans (h.at_ k q hq).c3⟩⟩
theorem OwnR.hrow {W : World} {b : Nat} {v : Value} {l : List Qt} (h : OwnR W b v l) (hl : 0 < l.length) : ∃ g c, v = .slice (some ⟨g, 0, none⟩) l.length c ∧ HRow W g l := by
  rcases h.rd with ⟨_, rfl⟩ | ⟨g, cap, rfl, _, hg, hr⟩
  · simp at hl
  · exact ⟨g, cap, rfl, hg, hr⟩

set_option maxRecDepth 100000 in
set_option maxHeartbeats 4000000 in
theorem fc_long (x : Qd) (a0 : Option Addr) (n cap0 : Nat) (h8 : 8 < n) (hn : n ≤ 9223372036854775807) (w : World) :
    Calls Try.prog 12 #[.agg #[.int .i64 x.w, .int .i64 x.x, .int .i64 x.y, .int .i64 x.z, .int .i64 x.d], .slice a0 n cap0] w fun e w' => e = .returned (.bool true) ∧ Below w.heap.size w w' := by
  go_enter Try.func12, Try.ntmps12
  go_wp2_with (first | (go_at_call 14; with_reducible refine (awake_any _).mono ?_; rintro e w1 ⟨rfl, hb1⟩; obtain ⟨g1, rfl⟩ := more_of_below hb1; clear hb1))
  go_ret
  exact ⟨rfl, by (repeat (first | with_reducible assumption | with_reducible exact Below.refl _ _ | with_reducible refine Below.drewN ?_ _ | with_reducible refine Below.drew ?_ | with_reducible refine Below.alloc ?_ (by first | omega | (simp; done) | (simp; omega)) _ | with_reducible refine Below.setCell ?_ (by first | omega | (simp; done) | (simp; omega)) _ | with_reducible refine below_more _ _ ?_ (by first | omega | (simp; done) | (simp; omega))))⟩
set_option maxRecDepth 100000 in
set_option maxHeartbeats 8000000 in
theorem fc_err (x : Qd) (a0 : Option Addr) (n cap0 : Nat) (h8 : n ≤ 8) (l : List Int) (X : Qt) (w : World) (b : Bool) (d : Int) (hd : d ≠ 0)
    (cp : ∀ W, Below w.heap.size w W → Calls Try.prog 59 #[.slice a0 n cap0] W fun e w' => ∃ v, e = .returned v ∧ RdC w' v l ∧ Below W.heap.size W w')
    (pf : ∀ W v, RdC W v l → Calls Try.prog 58 #[.agg #[.int .i64 x.w, .int .i64 x.x, .int .i64 x.y, .int .i64 x.z, .int .i64 x.d], v] W fun e w' => e = .returned (.tuple #[.slice none 0 0, .int .i64 d]) ∧ Below W.heap.size W w')
    (ea : ∀ w, Calls Try.prog 16 #[.agg #[.int .i64 x.w, .int .i64 x.x, .int .i64 x.y, .int .i64 x.z, .int .i64 x.d]] w fun e w' => e = .returned (.int .i64 d) ∧ Below w.heap.size w w')
    (ox : ∀ w, Calls Try.prog 17 #[.agg #[.int .i64 x.w, .int .i64 x.x, .int .i64 x.y, .int .i64 x.z, .int .i64 x.d]] w fun e w' => e = .returned (.tuple #[.agg #[.int .i64 X.w, .int .i64 X.x, .int .i64 X.y, .int .i64 X.z], .bool b]) ∧ Below w.heap.size w w') :
    Calls Try.prog 12 #[.agg #[.int .i64 x.w, .int .i64 x.x, .int .i64 x.y, .int .i64 x.z, .int .i64 x.d], .slice a0 n cap0] w fun e w' => e = .returned (.bool true) ∧ Below w.heap.size w w' := by
  have CP : Hid _ := cp; have PF : Hid _ := pf; have EA : Hid _ := ea; have OX : Hid _ := ox
  clear cp pf ea ox
  have hd1 : (d == 0) = false := by simpa using hd
  have hd2 : (d != 0) = true := by simpa using hd
  have hd3 : (d == d) = true := by simp
  clear hd
  go_enter Try.func12, Try.ntmps12
  go_upto_region 5 with (first | (go_at_call 14; with_reducible refine (awake_any _).mono ?_; rintro e w1 ⟨rfl, hb1⟩; obtain ⟨g1, rfl⟩ := more_of_below hb1; clear hb1))
  go_cut [5, 6] from 19 to 25 (fun s5 s6 wx => s5 = .slice none 0 0 ∧ s6 = .int .i64 d ∧ Below w.heap.size w wx ∧ w.heap.size < wx.heap.size ∧ wx.cell? ⟨w.heap.size, 0, none⟩ = some (.int .i64 x.w) ∧ wx.cell? ⟨w.heap.size, 1, none⟩ = some (.int .i64 x.x) ∧ wx.cell? ⟨w.heap.size, 2, none⟩ = some (.int .i64 x.y) ∧ wx.cell? ⟨w.heap.size, 3, none⟩ = some (.int .i64 x.z) ∧ wx.cell? ⟨w.heap.size, 4, none⟩ = some (.int .i64 x.d))
  case first =>
    go_region_with (first | (go_at_call 59; (with_reducible refine (CP.out _ ?_).mono ?_); (focus ((repeat (first | with_reducible assumption | with_reducible exact Below.refl _ _ | with_reducible refine Below.drewN ?_ _ | with_reducible refine Below.drew ?_ | with_reducible refine Below.alloc ?_ (by first | omega | (simp; done) | (simp; omega)) _ | with_reducible refine Below.setCell ?_ (by first | omega | (simp; done) | (simp; omega)) _ | with_reducible refine below_more _ _ ?_ (by first | omega | (simp; done) | (simp; omega)))))); rintro e w2 ⟨v2, rfl, hv2, hb2⟩; have HV := Lib.hid hv2; clear hv2; obtain ⟨g2, rfl⟩ := more_of_below hb2; clear hb2) | (go_at_call 58; (with_reducible refine (PF.out _ _ ?_).mono ?_); (focus (exact HV.out)); rintro e w3 ⟨rfl, hb3⟩; obtain ⟨g3, rfl⟩ := more_of_below hb3; clear hb3))
    all_goals (go_wp2_with fail; go_meet; refine ⟨rfl, rfl, by (repeat (first | with_reducible assumption | with_reducible exact Below.refl _ _ | with_reducible refine Below.drewN ?_ _ | with_reducible refine Below.drew ?_ | with_reducible refine Below.alloc ?_ (by first | omega | (simp; done) | (simp; omega)) _ | with_reducible refine Below.setCell ?_ (by first | omega | (simp; done) | (simp; omega)) _ | with_reducible refine below_more _ _ ?_ (by first | omega | (simp; done) | (simp; omega)))), ?_, ?_, ?_, ?_, ?_, ?_⟩)
    all_goals (first | (go_simp; done) | (simp only [size_more_eq, World.size_alloc]; omega) | (simp; omega) | ((repeat (first | with_reducible assumption | with_reducible exact Below.refl _ _ | with_reducible refine Below.drewN ?_ _ | with_reducible refine Below.drew ?_ | with_reducible refine Below.alloc ?_ (by first | omega | (simp; done) | (simp; omega)) _ | with_reducible refine Below.setCell ?_ (by first | omega | (simp; done) | (simp; omega)) _ | with_reducible refine below_more _ _ ?_ (by first | omega | (simp; done) | (simp; omega))))))
  case rest =>
    obtain ⟨rfl, rfl, hb, l0, x0, x1, x2, x3, x4⟩ := hcut
    go_wp2_with (first | (go_at_call 16; with_reducible refine (EA.out _).mono ?_; rintro e w4 ⟨rfl, hb4⟩; obtain ⟨g4, rfl⟩ := more_of_below hb4; clear hb4) | (go_at_call 17; with_reducible refine (OX.out _).mono ?_; rintro e w5 ⟨rfl, hb5⟩; obtain ⟨g5, rfl⟩ := more_of_below hb5; clear hb5))
    go_ret
    exact ⟨rfl, by (repeat (first | with_reducible assumption | with_reducible exact Below.refl _ _ | with_reducible refine Below.drewN ?_ _ | with_reducible refine Below.drew ?_ | with_reducible refine Below.alloc ?_ (by first | omega | (simp; done) | (simp; omega)) _ | with_reducible refine Below.setCell ?_ (by first | omega | (simp; done) | (simp; omega)) _ | with_reducible refine below_more _ _ ?_ (by first | omega | (simp; done) | (simp; omega))))⟩
set_option maxRecDepth 100000 in
set_option maxHeartbeats 8000000 in
theorem fc_mod (x : Qd) (a0 : Option Addr) (n cap0 : Nat) (h8 : n ≤ 8) (l : List Int) (X : Qt) (w : World) (d : Int) (hd : d ≠ 0)
    (cp : ∀ W, Below w.heap.size w W → Calls Try.prog 59 #[.slice a0 n cap0] W fun e w' => ∃ v, e = .returned v ∧ RdC w' v l ∧ Below W.heap.size W w')
    (pf : ∀ W v, RdC W v l → Calls Try.prog 58 #[.agg #[.int .i64 x.w, .int .i64 x.x, .int .i64 x.y, .int .i64 x.z, .int .i64 x.d], v] W fun e w' => e = .returned (.tuple #[.slice none 0 0, .int .i64 d]) ∧ Below W.heap.size W w')
    (ea : ∀ w, Calls Try.prog 16 #[.agg #[.int .i64 x.w, .int .i64 x.x, .int .i64 x.y, .int .i64 x.z, .int .i64 x.d]] w fun e w' => e = .returned (.int .i64 0) ∧ Below w.heap.size w w')
    (ox : ∀ w, Calls Try.prog 17 #[.agg #[.int .i64 x.w, .int .i64 x.x, .int .i64 x.y, .int .i64 x.z, .int .i64 x.d]] w fun e w' => e = .returned (.tuple #[.agg #[.int .i64 X.w, .int .i64 X.x, .int .i64 X.y, .int .i64 X.z], .bool true]) ∧ Below w.heap.size w w')
    (me : ∀ W, Below w.heap.size w W → Calls Try.prog 60 #[.agg #[.int .i64 X.w, .int .i64 X.x, .int .i64 X.y, .int .i64 X.z], .slice a0 n cap0] W fun e w' => e = .returned (.int .i64 d) ∧ Below W.heap.size W w') :
    Calls Try.prog 12 #[.agg #[.int .i64 x.w, .int .i64 x.x, .int .i64 x.y, .int .i64 x.z, .int .i64 x.d], .slice a0 n cap0] w fun e w' => e = .returned (.bool true) ∧ Below w.heap.size w w' := by
  have CP : Hid _ := cp; have PF : Hid _ := pf; have EA : Hid _ := ea; have OX : Hid _ := ox; have ME : Hid _ := me
  clear cp pf ea ox me
  have hd1 : (d == 0) = false := by simpa using hd
  have hd2 : (d != 0) = true := by simpa using hd
  have hd3 : (d == d) = true := by simp
  clear hd
  go_enter Try.func12, Try.ntmps12
  go_upto_region 5 with (first | (go_at_call 14; with_reducible refine (awake_any _).mono ?_; rintro e w1 ⟨rfl, hb1⟩; obtain ⟨g1, rfl⟩ := more_of_below hb1; clear hb1))
  go_cut [5, 6] from 19 to 25 (fun s5 s6 wx => s5 = .slice none 0 0 ∧ s6 = .int .i64 d ∧ Below w.heap.size w wx ∧ w.heap.size < wx.heap.size ∧ wx.cell? ⟨w.heap.size, 0, none⟩ = some (.int .i64 x.w) ∧ wx.cell? ⟨w.heap.size, 1, none⟩ = some (.int .i64 x.x) ∧ wx.cell? ⟨w.heap.size, 2, none⟩ = some (.int .i64 x.y) ∧ wx.cell? ⟨w.heap.size, 3, none⟩ = some (.int .i64 x.z) ∧ wx.cell? ⟨w.heap.size, 4, none⟩ = some (.int .i64 x.d))
  case first =>
    go_region_with (first | (go_at_call 59; (with_reducible refine (CP.out _ ?_).mono ?_); (focus ((repeat (first | with_reducible assumption | with_reducible exact Below.refl _ _ | with_reducible refine Below.drewN ?_ _ | with_reducible refine Below.drew ?_ | with_reducible refine Below.alloc ?_ (by first | omega | (simp; done) | (simp; omega)) _ | with_reducible refine Below.setCell ?_ (by first | omega | (simp; done) | (simp; omega)) _ | with_reducible refine below_more _ _ ?_ (by first | omega | (simp; done) | (simp; omega)))))); rintro e w2 ⟨v2, rfl, hv2, hb2⟩; have HV := Lib.hid hv2; clear hv2; obtain ⟨g2, rfl⟩ := more_of_below hb2; clear hb2) | (go_at_call 58; (with_reducible refine (PF.out _ _ ?_).mono ?_); (focus (exact HV.out)); rintro e w3 ⟨rfl, hb3⟩; obtain ⟨g3, rfl⟩ := more_of_below hb3; clear hb3))
    all_goals (go_wp2_with fail; go_meet; refine ⟨rfl, rfl, by (repeat (first | with_reducible assumption | with_reducible exact Below.refl _ _ | with_reducible refine Below.drewN ?_ _ | with_reducible refine Below.drew ?_ | with_reducible refine Below.alloc ?_ (by first | omega | (simp; done) | (simp; omega)) _ | with_reducible refine Below.setCell ?_ (by first | omega | (simp; done) | (simp; omega)) _ | with_reducible refine below_more _ _ ?_ (by first | omega | (simp; done) | (simp; omega)))), ?_, ?_, ?_, ?_, ?_, ?_⟩)
    all_goals (first | (go_simp; done) | (simp only [size_more_eq, World.size_alloc]; omega) | (simp; omega) | ((repeat (first | with_reducible assumption | with_reducible exact Below.refl _ _ | with_reducible refine Below.drewN ?_ _ | with_reducible refine Below.drew ?_ | with_reducible refine Below.alloc ?_ (by first | omega | (simp; done) | (simp; omega)) _ | with_reducible refine Below.setCell ?_ (by first | omega | (simp; done) | (simp; omega)) _ | with_reducible refine below_more _ _ ?_ (by first | omega | (simp; done) | (simp; omega))))))
  case rest =>
    obtain ⟨rfl, rfl, hb, l0, x0, x1, x2, x3, x4⟩ := hcut
    go_wp2_with (first | (go_at_call 16; with_reducible refine (EA.out _).mono ?_; rintro e w4 ⟨rfl, hb4⟩; obtain ⟨g4, rfl⟩ := more_of_below hb4; clear hb4) | (go_at_call 17; with_reducible refine (OX.out _).mono ?_; rintro e w5 ⟨rfl, hb5⟩; obtain ⟨g5, rfl⟩ := more_of_below hb5; clear hb5) | (go_at_call 60; (with_reducible refine (ME.out _ ?_).mono ?_); (focus ((repeat (first | with_reducible assumption | with_reducible exact Below.refl _ _ | with_reducible refine Below.drewN ?_ _ | with_reducible refine Below.drew ?_ | with_reducible refine Below.alloc ?_ (by first | omega | (simp; done) | (simp; omega)) _ | with_reducible refine Below.setCell ?_ (by first | omega | (simp; done) | (simp; omega)) _ | with_reducible refine below_more _ _ ?_ (by first | omega | (simp; done) | (simp; omega)))))); rintro e w6 ⟨rfl, hb6⟩; obtain ⟨g6, rfl⟩ := more_of_below hb6; clear hb6))
    go_ret
    exact ⟨rfl, by (repeat (first | with_reducible assumption | with_reducible exact Below.refl _ _ | with_reducible refine Below.drewN ?_ _ | with_reducible refine Below.drew ?_ | with_reducible refine Below.alloc ?_ (by first | omega | (simp; done) | (simp; omega)) _ | with_reducible refine Below.setCell ?_ (by first | omega | (simp; done) | (simp; omega)) _ | with_reducible refine below_more _ _ ?_ (by first | omega | (simp; done) | (simp; omega))))⟩
set_option maxRecDepth 100000 in
set_option maxHeartbeats 8000000 in
theorem fc_form (x : Qd) (a0 : Option Addr) (n cap0 : Nat) (h8 : n ≤ 8) (l : List Int) (X : Qt) (w : World) (c : Int) (hc : c ≠ 1)
    (cp : ∀ W, Below w.heap.size w W → Calls Try.prog 59 #[.slice a0 n cap0] W fun e w' => ∃ v, e = .returned v ∧ RdC w' v l ∧ Below W.heap.size W w')
    (pf : ∀ W v, RdC W v l → Calls Try.prog 58 #[.agg #[.int .i64 x.w, .int .i64 x.x, .int .i64 x.y, .int .i64 x.z, .int .i64 x.d], v] W fun e w' => e = .returned (.tuple #[.slice none 0 0, .int .i64 3]) ∧ Below W.heap.size W w')
    (ea : ∀ w, Calls Try.prog 16 #[.agg #[.int .i64 x.w, .int .i64 x.x, .int .i64 x.y, .int .i64 x.z, .int .i64 x.d]] w fun e w' => e = .returned (.int .i64 0) ∧ Below w.heap.size w w')
    (ox : ∀ w, Calls Try.prog 17 #[.agg #[.int .i64 x.w, .int .i64 x.x, .int .i64 x.y, .int .i64 x.z, .int .i64 x.d]] w fun e w' => e = .returned (.tuple #[.agg #[.int .i64 X.w, .int .i64 X.x, .int .i64 X.y, .int .i64 X.z], .bool true]) ∧ Below w.heap.size w w')
    (me : ∀ W, Below w.heap.size w W → Calls Try.prog 60 #[.agg #[.int .i64 X.w, .int .i64 X.x, .int .i64 X.y, .int .i64 X.z], .slice a0 n cap0] W fun e w' => e = .returned (.int .i64 0) ∧ Below W.heap.size W w')
    (ct : ∀ w, Calls Try.prog 44 #[.agg #[.int .i64 X.w, .int .i64 X.x, .int .i64 X.y, .int .i64 X.z]] w fun e w' => e = .returned (.int .i64 c) ∧ Below w.heap.size w w') :
    Calls Try.prog 12 #[.agg #[.int .i64 x.w, .int .i64 x.x, .int .i64 x.y, .int .i64 x.z, .int .i64 x.d], .slice a0 n cap0] w fun e w' => e = .returned (.bool true) ∧ Below w.heap.size w w' := by
  have CP : Hid _ := cp; have PF : Hid _ := pf; have EA : Hid _ := ea; have OX : Hid _ := ox; have ME : Hid _ := me; have CT : Hid _ := ct
  clear cp pf ea ox me ct
  have hc1 : (c != 1) = true := by simpa using hc
  clear hc
  go_enter Try.func12, Try.ntmps12
  go_upto_region 5 with (first | (go_at_call 14; with_reducible refine (awake_any _).mono ?_; rintro e w1 ⟨rfl, hb1⟩; obtain ⟨g1, rfl⟩ := more_of_below hb1; clear hb1))
  go_cut [5, 6] from 19 to 25 (fun s5 s6 wx => s5 = .slice none 0 0 ∧ s6 = .int .i64 3 ∧ Below w.heap.size w wx ∧ w.heap.size < wx.heap.size ∧ wx.cell? ⟨w.heap.size, 0, none⟩ = some (.int .i64 x.w) ∧ wx.cell? ⟨w.heap.size, 1, none⟩ = some (.int .i64 x.x) ∧ wx.cell? ⟨w.heap.size, 2, none⟩ = some (.int .i64 x.y) ∧ wx.cell? ⟨w.heap.size, 3, none⟩ = some (.int .i64 x.z) ∧ wx.cell? ⟨w.heap.size, 4, none⟩ = some (.int .i64 x.d))
  case first =>
    go_region_with (first | (go_at_call 59; (with_reducible refine (CP.out _ ?_).mono ?_); (focus ((repeat (first | with_reducible assumption | with_reducible exact Below.refl _ _ | with_reducible refine Below.drewN ?_ _ | with_reducible refine Below.drew ?_ | with_reducible refine Below.alloc ?_ (by first | omega | (simp; done) | (simp; omega)) _ | with_reducible refine Below.setCell ?_ (by first | omega | (simp; done) | (simp; omega)) _ | with_reducible refine below_more _ _ ?_ (by first | omega | (simp; done) | (simp; omega)))))); rintro e w2 ⟨v2, rfl, hv2, hb2⟩; have HV := Lib.hid hv2; clear hv2; obtain ⟨g2, rfl⟩ := more_of_below hb2; clear hb2) | (go_at_call 58; (with_reducible refine (PF.out _ _ ?_).mono ?_); (focus (exact HV.out)); rintro e w3 ⟨rfl, hb3⟩; obtain ⟨g3, rfl⟩ := more_of_below hb3; clear hb3))
    all_goals (go_wp2_with fail; go_meet; refine ⟨rfl, rfl, by (repeat (first | with_reducible assumption | with_reducible exact Below.refl _ _ | with_reducible refine Below.drewN ?_ _ | with_reducible refine Below.drew ?_ | with_reducible refine Below.alloc ?_ (by first | omega | (simp; done) | (simp; omega)) _ | with_reducible refine Below.setCell ?_ (by first | omega | (simp; done) | (simp; omega)) _ | with_reducible refine below_more _ _ ?_ (by first | omega | (simp; done) | (simp; omega)))), ?_, ?_, ?_, ?_, ?_, ?_⟩)
    all_goals (first | (go_simp; done) | (simp only [size_more_eq, World.size_alloc]; omega) | (simp; omega) | ((repeat (first | with_reducible assumption | with_reducible exact Below.refl _ _ | with_reducible refine Below.drewN ?_ _ | with_reducible refine Below.drew ?_ | with_reducible refine Below.alloc ?_ (by first | omega | (simp; done) | (simp; omega)) _ | with_reducible refine Below.setCell ?_ (by first | omega | (simp; done) | (simp; omega)) _ | with_reducible refine below_more _ _ ?_ (by first | omega | (simp; done) | (simp; omega))))))
  case rest =>
    obtain ⟨rfl, rfl, hb, l0, x0, x1, x2, x3, x4⟩ := hcut
    go_wp2_with (first | (go_at_call 16; with_reducible refine (EA.out _).mono ?_; rintro e w4 ⟨rfl, hb4⟩; obtain ⟨g4, rfl⟩ := more_of_below hb4; clear hb4) | (go_at_call 17; with_reducible refine (OX.out _).mono ?_; rintro e w5 ⟨rfl, hb5⟩; obtain ⟨g5, rfl⟩ := more_of_below hb5; clear hb5) | (go_at_call 60; (with_reducible refine (ME.out _ ?_).mono ?_); (focus ((repeat (first | with_reducible assumption | with_reducible exact Below.refl _ _ | with_reducible refine Below.drewN ?_ _ | with_reducible refine Below.drew ?_ | with_reducible refine Below.alloc ?_ (by first | omega | (simp; done) | (simp; omega)) _ | with_reducible refine Below.setCell ?_ (by first | omega | (simp; done) | (simp; omega)) _ | with_reducible refine below_more _ _ ?_ (by first | omega | (simp; done) | (simp; omega)))))); rintro e w6 ⟨rfl, hb6⟩; obtain ⟨g6, rfl⟩ := more_of_below hb6; clear hb6) | (go_at_call 44; with_reducible refine (CT.out _).mono ?_; rintro e w7 ⟨rfl, hb7⟩; obtain ⟨g7, rfl⟩ := more_of_below hb7; clear hb7))
    go_ret
    exact ⟨rfl, by (repeat (first | with_reducible assumption | with_reducible exact Below.refl _ _ | with_reducible refine Below.drewN ?_ _ | with_reducible refine Below.drew ?_ | with_reducible refine Below.alloc ?_ (by first | omega | (simp; done) | (simp; omega)) _ | with_reducible refine Below.setCell ?_ (by first | omega | (simp; done) | (simp; omega)) _ | with_reducible refine below_more _ _ ?_ (by first | omega | (simp; done) | (simp; omega))))⟩
set_option maxRecDepth 100000 in
set_option maxHeartbeats 8000000 in
theorem fc_ok (x : Qd) (a0 : Option Addr) (n cap0 : Nat) (h8 : n ≤ 8) (l : List Int) (X : Qt) (w : World) (h1 : 1 ≤ n) (F : List Qt) (hF : F.length = n) (hl : l.length = n) (Q : Nat → Qt) (hQ0 : F[0]? = some (Q 0)) (hQ : Q (n - 1) = X) (hz : ∃ a, a0 = some a ∧ ZAt w a l)
    (cp : ∀ W, Below w.heap.size w W → Calls Try.prog 59 #[.slice a0 n cap0] W fun e w' => ∃ v, e = .returned v ∧ RdC w' v l ∧ Below W.heap.size W w')
    (pf : ∀ W v, RdC W v l → Calls Try.prog 58 #[.agg #[.int .i64 x.w, .int .i64 x.x, .int .i64 x.y, .int .i64 x.z, .int .i64 x.d], v] W fun e w' => ∃ u, e = .returned (.tuple #[u, .int .i64 0]) ∧ Rd w' u (F.map Qt.toQ) ∧ Below W.heap.size W w')
    (ea : ∀ w, Calls Try.prog 16 #[.agg #[.int .i64 x.w, .int .i64 x.x, .int .i64 x.y, .int .i64 x.z, .int .i64 x.d]] w fun e w' => e = .returned (.int .i64 0) ∧ Below w.heap.size w w')
    (ox : ∀ w, Calls Try.prog 17 #[.agg #[.int .i64 x.w, .int .i64 x.x, .int .i64 x.y, .int .i64 x.z, .int .i64 x.d]] w fun e w' => e = .returned (.tuple #[.agg #[.int .i64 X.w, .int .i64 X.x, .int .i64 X.y, .int .i64 X.z], .bool true]) ∧ Below w.heap.size w w')
    (me : ∀ W, Below w.heap.size w W → Calls Try.prog 60 #[.agg #[.int .i64 X.w, .int .i64 X.x, .int .i64 X.y, .int .i64 X.z], .slice a0 n cap0] W fun e w' => e = .returned (.int .i64 0) ∧ Below W.heap.size W w')
    (ct : ∀ w, Calls Try.prog 44 #[.agg #[.int .i64 X.w, .int .i64 X.x, .int .i64 X.y, .int .i64 X.z]] w fun e w' => e = .returned (.int .i64 1) ∧ Below w.heap.size w w')
    (rf : ∀ W, Below w.heap.size w W → Calls Try.prog 61 #[.agg #[.int .i64 X.w, .int .i64 X.x, .int .i64 X.y, .int .i64 X.z], .slice a0 n cap0] W fun e w' => ∃ g c, e = .returned (.slice (some ⟨g, 0, none⟩) n c) ∧ HRow w' g F ∧ Below W.heap.size W w')
    (qs : ∀ W g c, HRow W g F → Calls Try.prog 27 #[.slice (some ⟨g, 0, none⟩) n c] W fun e w' => ∃ u, e = .returned u ∧ Rd w' u (F.map Qt.toQ) ∧ Below W.heap.size W w')
    (sq : ∀ W u v, Rd W u (F.map Qt.toQ) → Rd W v (F.map Qt.toQ) → Calls Try.prog 26 #[u, v] W fun e w' => e = .returned (.bool true) ∧ Below W.heap.size W w')
    (ca : ∀ (k : Nat) (e : Qt), k + 1 < n → F[k]? = some e → ∀ w, Calls Try.prog 43 #[.agg #[.int .i64 e.w, .int .i64 e.x, .int .i64 e.y, .int .i64 e.z]] w fun e' w' => e' = .returned (.agg #[.int .i64 e.w, .int .i64 e.x, .int .i64 e.y, .int .i64 e.z]) ∧ Below w.heap.size w w')
    (ti : ∀ (k : Nat) (q : Qt), F[k + 1]? = some q → ∀ w, Calls Try.prog 23 #[.agg #[.int .i64 (Q k).w, .int .i64 (Q k).x, .int .i64 (Q k).y, .int .i64 (Q k).z], .agg #[.int .i64 q.w, .int .i64 q.x, .int .i64 q.y, .int .i64 q.z]] w fun e' w' => e' = .returned (.agg #[.int .i64 (Q (k + 1)).w, .int .i64 (Q (k + 1)).x, .int .i64 (Q (k + 1)).y, .int .i64 (Q (k + 1)).z]) ∧ Below w.heap.size w w')
    (nm : ∀ (k : Nat) (q : Qt) (z : Int), F[k]? = some q → l[k]? = some z → ∀ w, Calls Try.prog 21 #[.agg #[.int .i64 q.w, .int .i64 q.x, .int .i64 q.y, .int .i64 q.z]] w fun e' w' => e' = .returned (.int .i64 z) ∧ Below w.heap.size w w') :
    Calls Try.prog 12 #[.agg #[.int .i64 x.w, .int .i64 x.x, .int .i64 x.y, .int .i64 x.z, .int .i64 x.d], .slice a0 n cap0] w fun e w' => e = .returned (.bool true) ∧ Below w.heap.size w w' := by
  have CP : Hid _ := cp; have PF : Hid _ := pf; have EA : Hid _ := ea; have OX : Hid _ := ox; have ME : Hid _ := me; have CT : Hid _ := ct; have RF : Hid _ := rf; have QS : Hid _ := qs; have SQ : Hid _ := sq; have CA : Hid _ := ca; have TI : Hid _ := ti; have NM : Hid _ := nm; have HF : Hid _ := hF; have HL : Hid _ := hl; have HQ0 : Hid _ := hQ0; have HQ : Hid _ := hQ; have HZ : Hid _ := hz
  clear cp pf ea ox me ct rf qs sq ca ti nm hF hl hQ0 hQ hz
  go_enter Try.func12, Try.ntmps12
  go_upto_region 5 with (first | (go_at_call 14; with_reducible refine (awake_any _).mono ?_; rintro e w1 ⟨rfl, hb1⟩; obtain ⟨g1, rfl⟩ := more_of_below hb1; clear hb1))
  go_cut [5, 6] from 19 to 25 (fun s5 s6 wx => (∃ u, s5 = u ∧ Rd wx u (F.map Qt.toQ)) ∧ s6 = .int .i64 0 ∧ Below w.heap.size w wx ∧ w.heap.size < wx.heap.size ∧ wx.cell? ⟨w.heap.size, 0, none⟩ = some (.int .i64 x.w) ∧ wx.cell? ⟨w.heap.size, 1, none⟩ = some (.int .i64 x.x) ∧ wx.cell? ⟨w.heap.size, 2, none⟩ = some (.int .i64 x.y) ∧ wx.cell? ⟨w.heap.size, 3, none⟩ = some (.int .i64 x.z) ∧ wx.cell? ⟨w.heap.size, 4, none⟩ = some (.int .i64 x.d))
  case first =>
    go_region_with (first | (go_at_call 59; (with_reducible refine (CP.out _ ?_).mono ?_); (focus ((repeat (first | with_reducible assumption | with_reducible exact Below.refl _ _ | with_reducible refine Below.drewN ?_ _ | with_reducible refine Below.drew ?_ | with_reducible refine Below.alloc ?_ (by first | omega | (simp; done) | (simp; omega)) _ | with_reducible refine Below.setCell ?_ (by first | omega | (simp; done) | (simp; omega)) _ | with_reducible refine below_more _ _ ?_ (by first | omega | (simp; done) | (simp; omega)))))); rintro e w2 ⟨v2, rfl, hv2, hb2⟩; have HV := Lib.hid hv2; clear hv2; obtain ⟨g2, rfl⟩ := more_of_below hb2; clear hb2) | (go_at_call 58; (with_reducible refine (PF.out _ _ ?_).mono ?_); (focus (exact HV.out)); rintro e w3 ⟨u3, rfl, hr3, hb3⟩; have HR3 := Lib.hid hr3; clear hr3; obtain ⟨g3, rfl⟩ := more_of_below hb3; clear hb3))
    all_goals (go_wp2_with fail; go_meet; refine ⟨⟨_, rfl, ?_⟩, rfl, by (repeat (first | with_reducible assumption | with_reducible exact Below.refl _ _ | with_reducible refine Below.drewN ?_ _ | with_reducible refine Below.drew ?_ | with_reducible refine Below.alloc ?_ (by first | omega | (simp; done) | (simp; omega)) _ | with_reducible refine Below.setCell ?_ (by first | omega | (simp; done) | (simp; omega)) _ | with_reducible refine below_more _ _ ?_ (by first | omega | (simp; done) | (simp; omega)))), ?_, ?_, ?_, ?_, ?_, ?_⟩)
    all_goals (first | (exact HR3.out) | (go_simp; done) | (simp only [size_more_eq, World.size_alloc]; omega) | (simp; omega) | ((repeat (first | with_reducible assumption | with_reducible exact Below.refl _ _ | with_reducible refine Below.drewN ?_ _ | with_reducible refine Below.drew ?_ | with_reducible refine Below.alloc ?_ (by first | omega | (simp; done) | (simp; omega)) _ | with_reducible refine Below.setCell ?_ (by first | omega | (simp; done) | (simp; omega)) _ | with_reducible refine below_more _ _ ?_ (by first | omega | (simp; done) | (simp; omega))))))
  case rest =>
    obtain ⟨⟨u, rfl, hu⟩, rfl, hb, l0, x0, x1, x2, x3, x4⟩ := hcut
    have HU := Lib.hid hu
    have HB := Lib.hid hb
    clear hu
    go_upto_region 17 with (first | (go_at_call 16; with_reducible refine (EA.out _).mono ?_; rintro e w4 ⟨rfl, hb4⟩; obtain ⟨g4, rfl⟩ := more_of_below hb4; clear hb4) | (go_at_call 17; with_reducible refine (OX.out _).mono ?_; rintro e w5 ⟨rfl, hb5⟩; obtain ⟨g5, rfl⟩ := more_of_below hb5; clear hb5) | (go_at_call 60; (with_reducible refine (ME.out _ ?_).mono ?_); (focus ((repeat (first | with_reducible assumption | with_reducible exact Below.refl _ _ | with_reducible refine Below.drewN ?_ _ | with_reducible refine Below.drew ?_ | with_reducible refine Below.alloc ?_ (by first | omega | (simp; done) | (simp; omega)) _ | with_reducible refine Below.setCell ?_ (by first | omega | (simp; done) | (simp; omega)) _ | with_reducible refine below_more _ _ ?_ (by first | omega | (simp; done) | (simp; omega)))))); rintro e w6 ⟨rfl, hb6⟩; obtain ⟨g6, rfl⟩ := more_of_below hb6; clear hb6) | (go_at_call 44; with_reducible refine (CT.out _).mono ?_; rintro e w7 ⟨rfl, hb7⟩; obtain ⟨g7, rfl⟩ := more_of_below hb7; clear hb7) | (go_at_call 61; (with_reducible refine (RF.out _ ?_).mono ?_); (focus ((repeat (first | with_reducible assumption | with_reducible exact Below.refl _ _ | with_reducible refine Below.drewN ?_ _ | with_reducible refine Below.drew ?_ | with_reducible refine Below.alloc ?_ (by first | omega | (simp; done) | (simp; omega)) _ | with_reducible refine Below.setCell ?_ (by first | omega | (simp; done) | (simp; omega)) _ | with_reducible refine below_more _ _ ?_ (by first | omega | (simp; done) | (simp; omega)))))); rintro e w8 ⟨g8, c8, rfl, hr8, hb8⟩; have HR8 := Lib.hid hr8; clear hr8; obtain ⟨m8, rfl⟩ := more_of_below hb8; clear hb8) | (go_at_call 27; (with_reducible refine (QS.out _ _ _ ?_).mono ?_); (focus (first | exact HR8.out | exact HR8.out.mor _)); rintro e w9 ⟨u9, rfl, hr9, hb9⟩; have HR9 := Lib.hid hr9; clear hr9; obtain ⟨m9, rfl⟩ := more_of_below hb9; clear hb9) | (go_at_call 26; (with_reducible refine (SQ.out _ _ _ ?_ ?_).mono ?_); (focus (exact HU.out.below (by (repeat (first | with_reducible assumption | with_reducible exact Below.refl _ _ | with_reducible refine Below.drewN ?_ _ | with_reducible refine Below.drew ?_ | with_reducible refine Below.alloc ?_ (by first | omega | (simp; done) | (simp; omega)) _ | with_reducible refine Below.setCell ?_ (by first | omega | (simp; done) | (simp; omega)) _ | with_reducible refine below_more _ _ ?_ (by first | omega | (simp; done) | (simp; omega))))))); (focus (exact HR9.out)); rintro e wd ⟨rfl, hbd⟩; obtain ⟨md, rfl⟩ := more_of_below hbd; clear hbd))
    have hrow := (HR8.out.mor m9).mor md
    obtain ⟨q0, q1, q2, q3⟩ := hrow.at_ 0 _ HQ0.out
    have hlt := hrow.lt
    simp only [size_more_eq, World.size_alloc] at hlt
    have HRW := Lib.hid hrow
    clear hrow
    go_cut [8, 10, 11] from 67 to 69 (fun s8 s10 s11 wx => ∃ b8 b11 gw cw, s8 = .pointer (some ⟨b8, 0, none⟩) ∧ s10 = .slice (some ⟨gw, 0, none⟩) n cw ∧ s11 = .pointer (some ⟨b11, 0, none⟩) ∧ Hid (Below w.heap.size w wx ∧ HRow wx gw F ∧ H4 wx b8 0 X ∧ H4 wx b11 0 (Q 0) ∧ (∀ o, o < 4 → wx.frozen? ⟨b11, o, none⟩ = false) ∧ b8 < wx.heap.size ∧ b11 < wx.heap.size ∧ b8 ≠ b11 ∧ b11 ≠ gw ∧ w.heap.size ≤ b11))
    case first =>
      go_wp2_with fail
      go_meet
      refine ⟨_, _, _, _, rfl, rfl, rfl, ⟨by (repeat (first | with_reducible assumption | with_reducible exact Below.refl _ _ | with_reducible refine Below.drewN ?_ _ | with_reducible refine Below.drew ?_ | with_reducible refine Below.alloc ?_ (by first | omega | (simp; done) | (simp; omega)) _ | with_reducible refine Below.setCell ?_ (by first | omega | (simp; done) | (simp; omega)) _ | with_reducible refine below_more _ _ ?_ (by first | omega | (simp; done) | (simp; omega)))), HRW.out.alloc _, ⟨?_, ?_, ?_, ?_⟩, ⟨?_, ?_, ?_, ?_⟩, ?_, ?_, ?_, ?_, ?_, ?_⟩⟩
      all_goals (first | (intro o ho; match o, ho with | 0, _ => go_simp | 1, _ => go_simp | 2, _ => go_simp | 3, _ => go_simp) | (go_simp; done) | omega | (simp only [size_more_eq, World.size_alloc]; omega) | (simp; omega))
    case rest =>
      obtain ⟨b8, b11, gw, cw, rfl, rfl, rfl, HC⟩ := hcut
      obtain ⟨w1, rfl⟩ : ∃ w1 : World, w1 = wc := ⟨_, rfl⟩
      obtain ⟨c1, c2, c3, c4, c5, c6, c7, ne1, ne2, le1⟩ := HC.out
      have HC0 : Hid (Below w.heap.size w w1 ∧ HRow w1 gw F ∧ H4 w1 b8 0 X ∧ H4 w1 b11 0 (Q 0) ∧ (∀ o, o < 4 → w1.frozen? ⟨b11, o, none⟩ = false) ∧ b8 < w1.heap.size ∧ b11 < w1.heap.size) := ⟨c1, c2, c3, c4, c5, c6, c7⟩
      clear c1 c2 c3 c4 c5 c6 c7 HC CP PF EA OX ME CT RF QS SQ HQ0 HU HB HR8 HR9 HRW hb l0 x0 x1 x2 x3 x4
      go_wp2_with fail
      go_loopw [12] (fun i wr => ∃ k m : Nat, k = m + 1 ∧ k ≤ n ∧ i = .int .i64 k ∧ Hid (Below w.heap.size w wr ∧ HRow wr gw F ∧ H4 wr b8 0 X ∧ H4 wr b11 0 (Q m) ∧ (∀ o, o < 4 → wr.frozen? ⟨b11, o, none⟩ = false) ∧ b8 < wr.heap.size ∧ b11 < wr.heap.size)) (fun i _ => n - (intOf i).toNat)
      case atStart => exact ⟨1, 0, rfl, h1, rfl, HC0.out⟩
      case round =>
        clear HC0
        obtain ⟨k, m, hkm, hk, rfl, HR⟩ := hrel
        obtain ⟨wo, rfl⟩ : ∃ wo : World, wo = wr := ⟨_, rfl⟩
        obtain ⟨o1, o2, o3, o4, f, l8, l11⟩ := HR.out
        have f0 := f 0 (by omega); have f1 := f 1 (by omega); have f2 := f 2 (by omega); have f3 := f 3 (by omega)
        have lg := o2.lt
        obtain ⟨h0, h1', h2, h3⟩ := o3
        obtain ⟨p0, p1, p2, p3⟩ := o4
        have HKM := Lib.hid hkm
        have O2 := Lib.hid o2
        have O1 := Lib.hid o1
        clear f HR
        by_cases hkn : k < n
        · obtain ⟨e, he⟩ : ∃ e, F[m]? = some e := ⟨F[m]'(by rw [HF.out]; omega), List.getElem?_eq_getElem _⟩
          obtain ⟨q, hq⟩ : ∃ q, F[k]? = some q := ⟨F[k]'(by rw [HF.out]; omega), List.getElem?_eq_getElem _⟩
          obtain ⟨e0, e1, e2, e3⟩ := o2.at_ m e he
          obtain ⟨q0, q1, q2, q3⟩ := o2.at_ k q hq
          have kn : (k : Int) < (n : Int) := by omega
          have k1 : (1 : Int) ≤ (k : Int) := by omega
          have km1 : (k : Int) - 1 = (m : Int) := by omega
          have sw : IntKind.i64.wrap ((k : Int) - 1) = (m : Int) := by rw [km1]; exact IntWalk.i64_in _ (by omega)
          have CA2 := Lib.hid (CA.out m e (by omega) he)
          have TI2 := Lib.hid (TI.out m q (by rw [← hkm]; exact hq))
          have eb : Qt.eqb ⟨e.w, e.x, e.y, e.z⟩ ⟨e.w, e.x, e.y, e.z⟩ = true := Qt.eqb_iff.2 rfl
          clear he hq hkm o1 o2 CA TI NM HZ HQ
          go_wp2_with fail
          (refine wp_region_quiet (C := Ext _) (by kernel_rfl) (by kernel_rfl) (Ext.start _) ?_; simp only []; (repeat (first | go_big_quiet_skip | (go_big_quiet_want; go_big_quiet_op; first | go_big_quiet_on | (apply Exists.intro; refine ⟨fun w' hw' => ?_, ?_⟩; (focus (first | with_reducible exact rfl | (go_at_call 43; (with_reducible exact Ext.call hw' (CA2.out _))) | (obtain ⟨gx, rfl⟩ := more_of_below (Ext.below hw'); go_simp; exact rfl))); go_big_quiet_on)))); refine wpQuiet_nil ?_; intro w9 hw9; have hb9 := Ext.below hw9; clear hw9; obtain ⟨g9, rfl⟩ := more_of_below hb9; clear hb9)
          clear e0 e1 e2 e3 eb CA2
          go_wp2_with fail
          (refine wp_region_calm_tail 6 (Ext _) (by kernel_rfl) (by kernel_rfl) (Ext.start _) ?_; simp only [List.take_succ_cons, List.take_zero, List.drop_succ_cons, List.drop_zero]; (repeat (refine wpQuiet_step (fun K hK => ?_); go_simp; (try go_bits); apply Exists.intro; refine ⟨fun w' hw' => ?_, hK _ ?_⟩; (focus (first | with_reducible exact rfl | (go_at_call 23; (with_reducible exact Ext.call hw' (TI2.out _))) | (obtain ⟨gx, rfl⟩ := more_of_below (Ext.below hw'); go_simp; exact rfl))); clear hK K)); refine wpQuiet_nil ?_; intro w10 hw10; have hb10 := Ext.below hw10; clear hw10; obtain ⟨g10, rfl⟩ := more_of_below hb10; clear hb10)
          clear q0 q1 q2 q3 TI2 sw
          go_wp2_with fail
          go_roundw
          case rel =>
            have o1 := O1.out
            have hkm := HKM.out
            refine ⟨k + 1, m + 1, by omega, by omega, by go_num, ?_, ?_, ⟨?_, ?_, ?_, ?_⟩, ⟨?_, ?_, ?_, ?_⟩, ?_, ?_, ?_⟩
            · (repeat (first | with_reducible assumption | with_reducible exact Below.refl _ _ | with_reducible refine Below.drewN ?_ _ | with_reducible refine Below.drew ?_ | with_reducible refine Below.alloc ?_ (by first | omega | (simp; done) | (simp; omega)) _ | with_reducible refine Below.setCell ?_ (by first | omega | (simp; done) | (simp; omega)) _ | with_reducible refine below_more _ _ ?_ (by first | omega | (simp; done) | (simp; omega))))
            · repeat (first | with_reducible exact O2.out | with_reducible refine HRow.setCell ?_ ne2 _ | with_reducible refine HRow.mor ?_ _)
            · go_simp
            · go_simp
            · go_simp
            · go_simp
            · go_simp
            · go_simp
            · go_simp
            · go_simp
            · intro o ho
              match o, ho with
              | 0, _ => go_simp
              | 1, _ => go_simp
              | 2, _ => go_simp
              | 3, _ => go_simp
            · first | (simp; omega) | (simp only [size_more_eq, World.size_setCell]; omega)
            · first | (simp; omega) | (simp only [size_more_eq, World.size_setCell]; omega)
          case measure => simp [intOf]; omega
        · obtain rfl : k = n := by omega
          have hQX : Q m = X := by rw [← HQ.out, hkm]; rfl
          rw [hQX] at p0 p1 p2 p3
          obtain ⟨a, rfl, hza⟩ := HZ.out
          have hzo := hza.below o1 (Nat.le_refl _)
          have ZO := Lib.hid hzo
          have eX : Qt.eqb ⟨X.w, X.x, X.y, X.z⟩ ⟨X.w, X.x, X.y, X.z⟩ = true := Qt.eqb_iff.2 rfl
          clear hQX hkm HKM HZ hza hzo o2 CA TI HQ f0 f1 f2 f3
          go_wp2_with fail
          go_loopw [13] (fun i wr => ∃ k' : Nat, k' ≤ k ∧ i = .int .i64 k' ∧ Ext wo wr) (fun i _ => k - (intOf i).toNat)
          case atStart => exact ⟨0, by omega, rfl, Ext.refl _⟩
          case round =>
            obtain ⟨j, hj, rfl, hext⟩ := hrel
            obtain ⟨gx, rfl⟩ := more_of_below (Ext.below hext)
            clear hext
            by_cases hjn : j < k
            · obtain ⟨e, he⟩ : ∃ e, F[j]? = some e := ⟨F[j]'(by rw [HF.out]; omega), List.getElem?_eq_getElem _⟩
              obtain ⟨z, hz⟩ : ∃ z, l[j]? = some z := ⟨l[j]'(by rw [HL.out]; omega), List.getElem?_eq_getElem _⟩
              obtain ⟨e0, e1, e2, e3⟩ := O2.out.at_ j e he
              have cq := (ZO.out.mor gx) j z hz
              have cq2 : ∀ g, (more (more wo gx) g).cell? (a.add j) = some (.int .i64 z) := fun g => ((ZO.out.mor gx).mor g) j z hz
              have jk : (j : Int) < (k : Int) := by omega
              have NM2 := Lib.hid (NM.out j e z he hz)
              have zz : (z != z) = false := by simp
              clear he hz NM
              go_wp2_with fail
              (refine wp_region_quiet (C := Ext _) (by kernel_rfl) (by kernel_rfl) (Ext.start _) ?_; simp only []; (repeat (first | go_big_quiet_skip | (go_big_quiet_want; go_big_quiet_op; first | go_big_quiet_on | (apply Exists.intro; refine ⟨fun w' hw' => ?_, ?_⟩; (focus (first | with_reducible exact rfl | (go_at_call 21; (with_reducible exact Ext.call hw' (NM2.out _))) | (obtain ⟨gx, rfl⟩ := more_of_below (Ext.below hw'); go_simp; exact rfl))); go_big_quiet_on)))); refine wpQuiet_nil ?_; intro w12 hw12; have hb12 := Ext.below hw12; clear hw12; obtain ⟨g12, rfl⟩ := more_of_below hb12; clear hb12)
              go_wp2_with fail
              go_roundw
              case rel => exact ⟨j + 1, by omega, by go_num, ext_mk (by (repeat (first | with_reducible assumption | with_reducible exact Below.refl _ _ | with_reducible refine Below.drewN ?_ _ | with_reducible refine Below.drew ?_ | with_reducible refine Below.alloc ?_ (by first | omega | (simp; done) | (simp; omega)) _ | with_reducible refine Below.setCell ?_ (by first | omega | (simp; done) | (simp; omega)) _ | with_reducible refine below_more _ _ ?_ (by first | omega | (simp; done) | (simp; omega)))))⟩
              case measure => simp [intOf]; omega
            · clear NM ZO
              go_wp2
              go_ret
              have hB := O1.out
              exact ⟨rfl, by (repeat (first | with_reducible assumption | with_reducible exact Below.refl _ _ | with_reducible refine Below.drewN ?_ _ | with_reducible refine Below.drew ?_ | with_reducible refine Below.alloc ?_ (by first | omega | (simp; done) | (simp; omega)) _ | with_reducible refine Below.setCell ?_ (by first | omega | (simp; done) | (simp; omega)) _ | with_reducible refine below_more _ _ ?_ (by first | omega | (simp; done) | (simp; omega))))⟩
end Go.Proofs.Ythajaabgcbjfkaa
