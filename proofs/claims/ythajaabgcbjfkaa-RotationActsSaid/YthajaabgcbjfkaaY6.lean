/- The law RotationActs: the walk. Printed by geny6.py. -/
import Derived.Test.YthajaabgcbjfkaaY4
import Derived.Test.YthajaabgcbjfkaaY5
import Derived.Test.YthajaabgcbjfkaaW1
import Derived.Test.YthajaabgcbjfkaaR4
import Derived.BigQuiet
namespace Go.Proofs.Ythajaabgcbjfkaa
open Go.RowKit Go.BigFrame

/-- The block g holds the numbers l. -/
structure ZRow (w : World) (g : Nat) (l : List Int) : Prop where
  lt : g < w.heap.size
  at_ : ∀ (k : Nat) (x : Int), l[k]? = some x → w.cell? ⟨g, k, none⟩ = some (.int .i64 x)
theorem ZRow.mor {W : World} {g : Nat} {l : List Int} (h : ZRow W g l) (x : Nat × Array Obj) : ZRow (more W x) g l :=
  ⟨Nat.lt_of_lt_of_le h.lt (size_more W x), fun k v hv => by rw [cell?_more _ _ _ h.lt]; exact h.at_ k v hv⟩
theorem ZRow.alloc {W : World} {g : Nat} {l : List Int} (h : ZRow W g l) (o : Obj) : ZRow (W.alloc o) g l :=
  ⟨by have := h.lt; simp; omega, fun k v hv => by rw [World.cell?_alloc_lt _ _ _ h.lt]; exact h.at_ k v hv⟩
theorem ZRow.low {W w' : World} {g : Nat} {l : List Int} (hb : Below W.heap.size W w') (h : ZRow W g l) : ZRow w' g l := by
  obtain ⟨x, rfl⟩ := more_of_below hb
  exact h.mor x
theorem ZRow.rd {W : World} {g n c : Nat} {l : List Int} (h : ZRow W g l) (hn : l.length = n) : RdZ W (.slice (some ⟨g, 0, none⟩) n c) l := by
  subst hn
  exact .inr ⟨_, _, rfl, ZAt.plain.2 fun k x hx => by rw [Nat.zero_add]; exact h.at_ k x hx⟩
theorem OwnZ.row {W : World} {b : Nat} {v : Value} {l : List Int} (h : OwnZ W b v l) (hl : 0 < l.length) : ∃ g c, v = .slice (some ⟨g, 0, none⟩) l.length c ∧ ZRow W g l := by
  have hr := h.rd
  obtain ⟨_, h2⟩ := h
  rcases h2 with ⟨h2, h3⟩ | ⟨g, cap, cur, hv, hg, hh, r⟩
  · omega
  · refine ⟨g, cap, hv, (Array.getElem?_eq_some_iff.1 hh).1, fun k x hx => ?_⟩
    rcases hr with ⟨e, _⟩ | ⟨a, c, e, hz⟩
    · rw [hv] at e; cases e
    · rw [hv] at e
      injection e with e1 e2 e3
      injection e1 with e1
      subst e1
      have := ZAt.plain.1 hz k x hx
      rwa [Nat.zero_add] at this
/-- What Permutation returns. -/
abbrev PermC (x : Qd) (p : Int) (n : Nat) (J : List Nat) : Prop := ∀ w, Calls Try.prog 55 #[.agg #[.int .i64 x.w, .int .i64 x.x, .int .i64 x.y, .int .i64 x.z, .int .i64 x.d], .int .i64 p] w fun e w' => ∃ g c, e = .returned (.tuple #[.slice (some ⟨g, 0, none⟩) n c, .int .i64 0]) ∧ ZRow w' g (J.map fun (j : Nat) => (j : Int)) ∧ Below w.heap.size w w'
set_option maxRecDepth 100000 in
set_option maxHeartbeats 4000000 in
theorem acts_p (x y : Qd) (p : Int) (h : p < 2 ∨ 31 < p)
 (w : World) :
    Calls Try.prog 11 #[.agg #[.int .i64 x.w, .int .i64 x.x, .int .i64 x.y, .int .i64 x.z, .int .i64 x.d], .agg #[.int .i64 y.w, .int .i64 y.x, .int .i64 y.y, .int .i64 y.z, .int .i64 y.d], .int .i64 p] w fun e w' => e = .returned (.bool true) ∧ Below w.heap.size w w' := by
  rcases h with h | h
  all_goals
    skip
    go_enter Try.func11, Try.ntmps11
    go_wp2_with (first | (go_at_call 14; with_reducible refine (awake_any _).mono ?_; rintro e w1 ⟨rfl, hb1⟩; obtain ⟨g1, rfl⟩ := more_of_below hb1; clear hb1))
    go_ret
    exact ⟨rfl, by (repeat (first | with_reducible assumption | with_reducible exact Below.refl _ _ | with_reducible refine Below.drewN ?_ _ | with_reducible refine Below.drew ?_ | with_reducible refine Below.alloc ?_ (by first | omega | (simp; done) | (simp; omega)) _ | with_reducible refine Below.setCell ?_ (by first | omega | (simp; done) | (simp; omega)) _ | with_reducible refine below_more _ _ ?_ (by first | omega | (simp; done) | (simp; omega))))⟩
set_option maxRecDepth 100000 in
set_option maxHeartbeats 4000000 in
theorem acts_e1 (x y : Qd) (p : Int) (h : 2 ≤ p) (h2 : p ≤ 31) (d : Int) (hd : d ≠ 0)
    (ea : ∀ w, Calls Try.prog 16 #[.agg #[.int .i64 x.w, .int .i64 x.x, .int .i64 x.y, .int .i64 x.z, .int .i64 x.d]] w fun e w' => e = .returned (.int .i64 d) ∧ Below w.heap.size w w') (w : World) :
    Calls Try.prog 11 #[.agg #[.int .i64 x.w, .int .i64 x.x, .int .i64 x.y, .int .i64 x.z, .int .i64 x.d], .agg #[.int .i64 y.w, .int .i64 y.x, .int .i64 y.y, .int .i64 y.z, .int .i64 y.d], .int .i64 p] w fun e w' => e = .returned (.bool true) ∧ Below w.heap.size w w' := by
  have EA := Lib.hid ea
  clear ea
  have hd1 : (d != 0) = true := by simpa using hd
  clear hd
  go_enter Try.func11, Try.ntmps11
  go_wp2_with (first | (go_at_call 14; with_reducible refine (awake_any _).mono ?_; rintro e w1 ⟨rfl, hb1⟩; obtain ⟨g1, rfl⟩ := more_of_below hb1; clear hb1) | (go_at_call 16; first | ((with_reducible refine (EA.out _).mono ?_); rintro e w2 ⟨rfl, hb2⟩; obtain ⟨g2, rfl⟩ := more_of_below hb2; clear hb2)))
  go_ret
  exact ⟨rfl, by (repeat (first | with_reducible assumption | with_reducible exact Below.refl _ _ | with_reducible refine Below.drewN ?_ _ | with_reducible refine Below.drew ?_ | with_reducible refine Below.alloc ?_ (by first | omega | (simp; done) | (simp; omega)) _ | with_reducible refine Below.setCell ?_ (by first | omega | (simp; done) | (simp; omega)) _ | with_reducible refine below_more _ _ ?_ (by first | omega | (simp; done) | (simp; omega))))⟩
set_option maxRecDepth 100000 in
set_option maxHeartbeats 4000000 in
theorem acts_e2 (x y : Qd) (p : Int) (h : 2 ≤ p) (h2 : p ≤ 31) (d : Int) (hd : d ≠ 0)
    (ea : ∀ w, Calls Try.prog 16 #[.agg #[.int .i64 x.w, .int .i64 x.x, .int .i64 x.y, .int .i64 x.z, .int .i64 x.d]] w fun e w' => e = .returned (.int .i64 0) ∧ Below w.heap.size w w')
    (eb : ∀ w, Calls Try.prog 16 #[.agg #[.int .i64 y.w, .int .i64 y.x, .int .i64 y.y, .int .i64 y.z, .int .i64 y.d]] w fun e w' => e = .returned (.int .i64 d) ∧ Below w.heap.size w w') (w : World) :
    Calls Try.prog 11 #[.agg #[.int .i64 x.w, .int .i64 x.x, .int .i64 x.y, .int .i64 x.z, .int .i64 x.d], .agg #[.int .i64 y.w, .int .i64 y.x, .int .i64 y.y, .int .i64 y.z, .int .i64 y.d], .int .i64 p] w fun e w' => e = .returned (.bool true) ∧ Below w.heap.size w w' := by
  have EA := Lib.hid ea; have EB := Lib.hid eb
  clear ea eb
  have hd1 : (d != 0) = true := by simpa using hd
  clear hd
  go_enter Try.func11, Try.ntmps11
  go_wp2_with (first | (go_at_call 14; with_reducible refine (awake_any _).mono ?_; rintro e w1 ⟨rfl, hb1⟩; obtain ⟨g1, rfl⟩ := more_of_below hb1; clear hb1) | (go_at_call 16; first | ((with_reducible refine (EA.out _).mono ?_); rintro e w2 ⟨rfl, hb2⟩; obtain ⟨g2, rfl⟩ := more_of_below hb2; clear hb2) | ((with_reducible refine (EB.out _).mono ?_); rintro e w3 ⟨rfl, hb3⟩; obtain ⟨g3, rfl⟩ := more_of_below hb3; clear hb3)))
  go_ret
  exact ⟨rfl, by (repeat (first | with_reducible assumption | with_reducible exact Below.refl _ _ | with_reducible refine Below.drewN ?_ _ | with_reducible refine Below.drew ?_ | with_reducible refine Below.alloc ?_ (by first | omega | (simp; done) | (simp; omega)) _ | with_reducible refine Below.setCell ?_ (by first | omega | (simp; done) | (simp; omega)) _ | with_reducible refine below_more _ _ ?_ (by first | omega | (simp; done) | (simp; omega))))⟩
set_option maxRecDepth 100000 in
set_option maxHeartbeats 4000000 in
theorem acts_np (x y : Qd) (p : Int) (h : 2 ≤ p) (h2 : p ≤ 31)
    (ea : ∀ w, Calls Try.prog 16 #[.agg #[.int .i64 x.w, .int .i64 x.x, .int .i64 x.y, .int .i64 x.z, .int .i64 x.d]] w fun e w' => e = .returned (.int .i64 0) ∧ Below w.heap.size w w')
    (eb : ∀ w, Calls Try.prog 16 #[.agg #[.int .i64 y.w, .int .i64 y.x, .int .i64 y.y, .int .i64 y.z, .int .i64 y.d]] w fun e w' => e = .returned (.int .i64 0) ∧ Below w.heap.size w w')
    (pr : ∀ w, Calls Try.prog 54 #[.int .i64 p] w fun e w' => e = .returned (.bool false) ∧ Below w.heap.size w w') (w : World) :
    Calls Try.prog 11 #[.agg #[.int .i64 x.w, .int .i64 x.x, .int .i64 x.y, .int .i64 x.z, .int .i64 x.d], .agg #[.int .i64 y.w, .int .i64 y.x, .int .i64 y.y, .int .i64 y.z, .int .i64 y.d], .int .i64 p] w fun e w' => e = .returned (.bool true) ∧ Below w.heap.size w w' := by
  have EA := Lib.hid ea; have EB := Lib.hid eb; have PR := Lib.hid pr
  clear ea eb pr
  go_enter Try.func11, Try.ntmps11
  go_wp2_with (first | (go_at_call 14; with_reducible refine (awake_any _).mono ?_; rintro e w1 ⟨rfl, hb1⟩; obtain ⟨g1, rfl⟩ := more_of_below hb1; clear hb1) | (go_at_call 16; first | ((with_reducible refine (EA.out _).mono ?_); rintro e w2 ⟨rfl, hb2⟩; obtain ⟨g2, rfl⟩ := more_of_below hb2; clear hb2) | ((with_reducible refine (EB.out _).mono ?_); rintro e w3 ⟨rfl, hb3⟩; obtain ⟨g3, rfl⟩ := more_of_below hb3; clear hb3)) | (go_at_call 54; with_reducible refine (PR.out _).mono ?_; rintro e w4 ⟨rfl, hb4⟩; obtain ⟨g4, rfl⟩ := more_of_below hb4; clear hb4))
  go_ret
  exact ⟨rfl, by (repeat (first | with_reducible assumption | with_reducible exact Below.refl _ _ | with_reducible refine Below.drewN ?_ _ | with_reducible refine Below.drew ?_ | with_reducible refine Below.alloc ?_ (by first | omega | (simp; done) | (simp; omega)) _ | with_reducible refine Below.setCell ?_ (by first | omega | (simp; done) | (simp; omega)) _ | with_reducible refine below_more _ _ ?_ (by first | omega | (simp; done) | (simp; omega))))⟩
set_option maxRecDepth 100000 in
set_option maxHeartbeats 4000000 in
theorem acts_n1 (x y : Qd) (p : Int) (h : 2 ≤ p) (h2 : p ≤ 31) (X Y : Qt) (N M : Int) (h3 : 1000 < N)
    (ea : ∀ w, Calls Try.prog 16 #[.agg #[.int .i64 x.w, .int .i64 x.x, .int .i64 x.y, .int .i64 x.z, .int .i64 x.d]] w fun e w' => e = .returned (.int .i64 0) ∧ Below w.heap.size w w')
    (eb : ∀ w, Calls Try.prog 16 #[.agg #[.int .i64 y.w, .int .i64 y.x, .int .i64 y.y, .int .i64 y.z, .int .i64 y.d]] w fun e w' => e = .returned (.int .i64 0) ∧ Below w.heap.size w w')
    (pr : ∀ w, Calls Try.prog 54 #[.int .i64 p] w fun e w' => e = .returned (.bool true) ∧ Below w.heap.size w w')
    (ox : ∀ w, Calls Try.prog 17 #[.agg #[.int .i64 x.w, .int .i64 x.x, .int .i64 x.y, .int .i64 x.z, .int .i64 x.d]] w fun e w' => e = .returned (.tuple #[.agg #[.int .i64 X.w, .int .i64 X.x, .int .i64 X.y, .int .i64 X.z], .bool true]) ∧ Below w.heap.size w w')
    (oy : ∀ w, Calls Try.prog 17 #[.agg #[.int .i64 y.w, .int .i64 y.x, .int .i64 y.y, .int .i64 y.z, .int .i64 y.d]] w fun e w' => e = .returned (.tuple #[.agg #[.int .i64 Y.w, .int .i64 Y.x, .int .i64 Y.y, .int .i64 Y.z], .bool true]) ∧ Below w.heap.size w w')
    (nx : ∀ w, Calls Try.prog 21 #[.agg #[.int .i64 X.w, .int .i64 X.x, .int .i64 X.y, .int .i64 X.z]] w fun e w' => e = .returned (.int .i64 N) ∧ Below w.heap.size w w')
    (ny : ∀ w, Calls Try.prog 21 #[.agg #[.int .i64 Y.w, .int .i64 Y.x, .int .i64 Y.y, .int .i64 Y.z]] w fun e w' => e = .returned (.int .i64 M) ∧ Below w.heap.size w w') (w : World) :
    Calls Try.prog 11 #[.agg #[.int .i64 x.w, .int .i64 x.x, .int .i64 x.y, .int .i64 x.z, .int .i64 x.d], .agg #[.int .i64 y.w, .int .i64 y.x, .int .i64 y.y, .int .i64 y.z, .int .i64 y.d], .int .i64 p] w fun e w' => e = .returned (.bool true) ∧ Below w.heap.size w w' := by
  have EA := Lib.hid ea; have EB := Lib.hid eb; have PR := Lib.hid pr; have OX := Lib.hid ox; have OY := Lib.hid oy; have NX := Lib.hid nx; have NY := Lib.hid ny
  clear ea eb pr ox oy nx ny
  go_enter Try.func11, Try.ntmps11
  go_wp2_with (first | (go_at_call 14; with_reducible refine (awake_any _).mono ?_; rintro e w1 ⟨rfl, hb1⟩; obtain ⟨g1, rfl⟩ := more_of_below hb1; clear hb1) | (go_at_call 16; first | ((with_reducible refine (EA.out _).mono ?_); rintro e w2 ⟨rfl, hb2⟩; obtain ⟨g2, rfl⟩ := more_of_below hb2; clear hb2) | ((with_reducible refine (EB.out _).mono ?_); rintro e w3 ⟨rfl, hb3⟩; obtain ⟨g3, rfl⟩ := more_of_below hb3; clear hb3)) | (go_at_call 54; with_reducible refine (PR.out _).mono ?_; rintro e w4 ⟨rfl, hb4⟩; obtain ⟨g4, rfl⟩ := more_of_below hb4; clear hb4) | (go_at_call 17; first | ((with_reducible refine (OX.out _).mono ?_); rintro e w5 ⟨rfl, hb5⟩; obtain ⟨g5, rfl⟩ := more_of_below hb5; clear hb5) | ((with_reducible refine (OY.out _).mono ?_); rintro e w6 ⟨rfl, hb6⟩; obtain ⟨g6, rfl⟩ := more_of_below hb6; clear hb6)))
  (refine wp_region_quiet (C := Ext _) (by kernel_rfl) (by kernel_rfl) (Ext.start _) ?_; simp only []; (repeat (first | go_big_quiet_skip | (go_big_quiet_want; go_big_quiet_op; first | go_big_quiet_on | (apply Exists.intro; refine ⟨fun w' hw' => ?_, ?_⟩; (focus (first | with_reducible exact rfl | (go_at_call 21; (first | with_reducible exact Ext.call hw' (NX.out _) | with_reducible exact Ext.call hw' (NY.out _))) | (obtain ⟨gx, rfl⟩ := more_of_below (Ext.below hw'); go_simp; exact rfl))); go_big_quiet_on)))); refine wpQuiet_nil ?_; intro w8 hw8; have hb8 := Ext.below hw8; clear hw8; obtain ⟨g8, rfl⟩ := more_of_below hb8; clear hb8)
  go_wp2_with fail
  go_ret
  exact ⟨rfl, by (repeat (first | with_reducible assumption | with_reducible exact Below.refl _ _ | with_reducible refine Below.drewN ?_ _ | with_reducible refine Below.drew ?_ | with_reducible refine Below.alloc ?_ (by first | omega | (simp; done) | (simp; omega)) _ | with_reducible refine Below.setCell ?_ (by first | omega | (simp; done) | (simp; omega)) _ | with_reducible refine below_more _ _ ?_ (by first | omega | (simp; done) | (simp; omega))))⟩
set_option maxRecDepth 100000 in
set_option maxHeartbeats 4000000 in
theorem acts_n2 (x y : Qd) (p : Int) (h : 2 ≤ p) (h2 : p ≤ 31) (X Y : Qt) (N M : Int) (h3 : ¬ 1000 < N) (h4 : 1000 < M)
    (ea : ∀ w, Calls Try.prog 16 #[.agg #[.int .i64 x.w, .int .i64 x.x, .int .i64 x.y, .int .i64 x.z, .int .i64 x.d]] w fun e w' => e = .returned (.int .i64 0) ∧ Below w.heap.size w w')
    (eb : ∀ w, Calls Try.prog 16 #[.agg #[.int .i64 y.w, .int .i64 y.x, .int .i64 y.y, .int .i64 y.z, .int .i64 y.d]] w fun e w' => e = .returned (.int .i64 0) ∧ Below w.heap.size w w')
    (pr : ∀ w, Calls Try.prog 54 #[.int .i64 p] w fun e w' => e = .returned (.bool true) ∧ Below w.heap.size w w')
    (ox : ∀ w, Calls Try.prog 17 #[.agg #[.int .i64 x.w, .int .i64 x.x, .int .i64 x.y, .int .i64 x.z, .int .i64 x.d]] w fun e w' => e = .returned (.tuple #[.agg #[.int .i64 X.w, .int .i64 X.x, .int .i64 X.y, .int .i64 X.z], .bool true]) ∧ Below w.heap.size w w')
    (oy : ∀ w, Calls Try.prog 17 #[.agg #[.int .i64 y.w, .int .i64 y.x, .int .i64 y.y, .int .i64 y.z, .int .i64 y.d]] w fun e w' => e = .returned (.tuple #[.agg #[.int .i64 Y.w, .int .i64 Y.x, .int .i64 Y.y, .int .i64 Y.z], .bool true]) ∧ Below w.heap.size w w')
    (nx : ∀ w, Calls Try.prog 21 #[.agg #[.int .i64 X.w, .int .i64 X.x, .int .i64 X.y, .int .i64 X.z]] w fun e w' => e = .returned (.int .i64 N) ∧ Below w.heap.size w w')
    (ny : ∀ w, Calls Try.prog 21 #[.agg #[.int .i64 Y.w, .int .i64 Y.x, .int .i64 Y.y, .int .i64 Y.z]] w fun e w' => e = .returned (.int .i64 M) ∧ Below w.heap.size w w') (w : World) :
    Calls Try.prog 11 #[.agg #[.int .i64 x.w, .int .i64 x.x, .int .i64 x.y, .int .i64 x.z, .int .i64 x.d], .agg #[.int .i64 y.w, .int .i64 y.x, .int .i64 y.y, .int .i64 y.z, .int .i64 y.d], .int .i64 p] w fun e w' => e = .returned (.bool true) ∧ Below w.heap.size w w' := by
  have EA := Lib.hid ea; have EB := Lib.hid eb; have PR := Lib.hid pr; have OX := Lib.hid ox; have OY := Lib.hid oy; have NX := Lib.hid nx; have NY := Lib.hid ny
  clear ea eb pr ox oy nx ny
  have d3 : decide (1000 < N) = false := decide_eq_false h3
  go_enter Try.func11, Try.ntmps11
  go_wp2_with (first | (go_at_call 14; with_reducible refine (awake_any _).mono ?_; rintro e w1 ⟨rfl, hb1⟩; obtain ⟨g1, rfl⟩ := more_of_below hb1; clear hb1) | (go_at_call 16; first | ((with_reducible refine (EA.out _).mono ?_); rintro e w2 ⟨rfl, hb2⟩; obtain ⟨g2, rfl⟩ := more_of_below hb2; clear hb2) | ((with_reducible refine (EB.out _).mono ?_); rintro e w3 ⟨rfl, hb3⟩; obtain ⟨g3, rfl⟩ := more_of_below hb3; clear hb3)) | (go_at_call 54; with_reducible refine (PR.out _).mono ?_; rintro e w4 ⟨rfl, hb4⟩; obtain ⟨g4, rfl⟩ := more_of_below hb4; clear hb4) | (go_at_call 17; first | ((with_reducible refine (OX.out _).mono ?_); rintro e w5 ⟨rfl, hb5⟩; obtain ⟨g5, rfl⟩ := more_of_below hb5; clear hb5) | ((with_reducible refine (OY.out _).mono ?_); rintro e w6 ⟨rfl, hb6⟩; obtain ⟨g6, rfl⟩ := more_of_below hb6; clear hb6)))
  (refine wp_region_quiet (C := Ext _) (by kernel_rfl) (by kernel_rfl) (Ext.start _) ?_; simp only []; (repeat (first | go_big_quiet_skip | (go_big_quiet_want; go_big_quiet_op; first | go_big_quiet_on | (apply Exists.intro; refine ⟨fun w' hw' => ?_, ?_⟩; (focus (first | with_reducible exact rfl | (go_at_call 21; (first | with_reducible exact Ext.call hw' (NX.out _) | with_reducible exact Ext.call hw' (NY.out _))) | (obtain ⟨gx, rfl⟩ := more_of_below (Ext.below hw'); go_simp; exact rfl))); go_big_quiet_on)))); refine wpQuiet_nil ?_; intro w8 hw8; have hb8 := Ext.below hw8; clear hw8; obtain ⟨g8, rfl⟩ := more_of_below hb8; clear hb8)
  go_wp2_with fail
  go_ret
  exact ⟨rfl, by (repeat (first | with_reducible assumption | with_reducible exact Below.refl _ _ | with_reducible refine Below.drewN ?_ _ | with_reducible refine Below.drew ?_ | with_reducible refine Below.alloc ?_ (by first | omega | (simp; done) | (simp; omega)) _ | with_reducible refine Below.setCell ?_ (by first | omega | (simp; done) | (simp; omega)) _ | with_reducible refine below_more _ _ ?_ (by first | omega | (simp; done) | (simp; omega))))⟩
set_option maxRecDepth 100000 in
set_option maxHeartbeats 4000000 in
theorem acts_n3 (x y : Qd) (p : Int) (h : 2 ≤ p) (h2 : p ≤ 31) (X Y : Qt) (N M : Int) (hN : 0 ≤ N ∧ N ≤ 1000000) (h3 : ¬ 1000 < N) (h4 : ¬ 1000 < M) (hNp : N % p = 0)
    (ea : ∀ w, Calls Try.prog 16 #[.agg #[.int .i64 x.w, .int .i64 x.x, .int .i64 x.y, .int .i64 x.z, .int .i64 x.d]] w fun e w' => e = .returned (.int .i64 0) ∧ Below w.heap.size w w')
    (eb : ∀ w, Calls Try.prog 16 #[.agg #[.int .i64 y.w, .int .i64 y.x, .int .i64 y.y, .int .i64 y.z, .int .i64 y.d]] w fun e w' => e = .returned (.int .i64 0) ∧ Below w.heap.size w w')
    (pr : ∀ w, Calls Try.prog 54 #[.int .i64 p] w fun e w' => e = .returned (.bool true) ∧ Below w.heap.size w w')
    (ox : ∀ w, Calls Try.prog 17 #[.agg #[.int .i64 x.w, .int .i64 x.x, .int .i64 x.y, .int .i64 x.z, .int .i64 x.d]] w fun e w' => e = .returned (.tuple #[.agg #[.int .i64 X.w, .int .i64 X.x, .int .i64 X.y, .int .i64 X.z], .bool true]) ∧ Below w.heap.size w w')
    (oy : ∀ w, Calls Try.prog 17 #[.agg #[.int .i64 y.w, .int .i64 y.x, .int .i64 y.y, .int .i64 y.z, .int .i64 y.d]] w fun e w' => e = .returned (.tuple #[.agg #[.int .i64 Y.w, .int .i64 Y.x, .int .i64 Y.y, .int .i64 Y.z], .bool true]) ∧ Below w.heap.size w w')
    (nx : ∀ w, Calls Try.prog 21 #[.agg #[.int .i64 X.w, .int .i64 X.x, .int .i64 X.y, .int .i64 X.z]] w fun e w' => e = .returned (.int .i64 N) ∧ Below w.heap.size w w')
    (ny : ∀ w, Calls Try.prog 21 #[.agg #[.int .i64 Y.w, .int .i64 Y.x, .int .i64 Y.y, .int .i64 Y.z]] w fun e w' => e = .returned (.int .i64 M) ∧ Below w.heap.size w w') (w : World) :
    Calls Try.prog 11 #[.agg #[.int .i64 x.w, .int .i64 x.x, .int .i64 x.y, .int .i64 x.z, .int .i64 x.d], .agg #[.int .i64 y.w, .int .i64 y.x, .int .i64 y.y, .int .i64 y.z, .int .i64 y.d], .int .i64 p] w fun e w' => e = .returned (.bool true) ∧ Below w.heap.size w w' := by
  have EA := Lib.hid ea; have EB := Lib.hid eb; have PR := Lib.hid pr; have OX := Lib.hid ox; have OY := Lib.hid oy; have NX := Lib.hid nx; have NY := Lib.hid ny
  clear ea eb pr ox oy nx ny
  have d3 : decide (1000 < N) = false := decide_eq_false h3
  have d4 : decide (1000 < M) = false := decide_eq_false h4
  have p0 : ¬ p = 0 := by omega
  have fN1 : (N % p == 0) = true := by simpa using hNp
  have fN2 : (N.tmod p == 0) = true := by rw [Int.tmod_eq_emod_of_nonneg (by omega)]; exact fN1
  go_enter Try.func11, Try.ntmps11
  go_wp2_with (first | (go_at_call 14; with_reducible refine (awake_any _).mono ?_; rintro e w1 ⟨rfl, hb1⟩; obtain ⟨g1, rfl⟩ := more_of_below hb1; clear hb1) | (go_at_call 16; first | ((with_reducible refine (EA.out _).mono ?_); rintro e w2 ⟨rfl, hb2⟩; obtain ⟨g2, rfl⟩ := more_of_below hb2; clear hb2) | ((with_reducible refine (EB.out _).mono ?_); rintro e w3 ⟨rfl, hb3⟩; obtain ⟨g3, rfl⟩ := more_of_below hb3; clear hb3)) | (go_at_call 54; with_reducible refine (PR.out _).mono ?_; rintro e w4 ⟨rfl, hb4⟩; obtain ⟨g4, rfl⟩ := more_of_below hb4; clear hb4) | (go_at_call 17; first | ((with_reducible refine (OX.out _).mono ?_); rintro e w5 ⟨rfl, hb5⟩; obtain ⟨g5, rfl⟩ := more_of_below hb5; clear hb5) | ((with_reducible refine (OY.out _).mono ?_); rintro e w6 ⟨rfl, hb6⟩; obtain ⟨g6, rfl⟩ := more_of_below hb6; clear hb6)))
  (refine wp_region_quiet (C := Ext _) (by kernel_rfl) (by kernel_rfl) (Ext.start _) ?_; simp only []; (repeat (first | go_big_quiet_skip | (go_big_quiet_want; go_big_quiet_op; first | go_big_quiet_on | (apply Exists.intro; refine ⟨fun w' hw' => ?_, ?_⟩; (focus (first | with_reducible exact rfl | (go_at_call 21; (first | with_reducible exact Ext.call hw' (NX.out _) | with_reducible exact Ext.call hw' (NY.out _))) | (obtain ⟨gx, rfl⟩ := more_of_below (Ext.below hw'); go_simp; exact rfl))); go_big_quiet_on)))); refine wpQuiet_nil ?_; intro w8 hw8; have hb8 := Ext.below hw8; clear hw8; obtain ⟨g8, rfl⟩ := more_of_below hb8; clear hb8)
  go_wp2_with fail
  go_ret
  exact ⟨rfl, by (repeat (first | with_reducible assumption | with_reducible exact Below.refl _ _ | with_reducible refine Below.drewN ?_ _ | with_reducible refine Below.drew ?_ | with_reducible refine Below.alloc ?_ (by first | omega | (simp; done) | (simp; omega)) _ | with_reducible refine Below.setCell ?_ (by first | omega | (simp; done) | (simp; omega)) _ | with_reducible refine below_more _ _ ?_ (by first | omega | (simp; done) | (simp; omega))))⟩
set_option maxRecDepth 100000 in
set_option maxHeartbeats 4000000 in
theorem acts_n4 (x y : Qd) (p : Int) (h : 2 ≤ p) (h2 : p ≤ 31) (X Y : Qt) (N M : Int) (hN : 0 ≤ N ∧ N ≤ 1000000) (hM : 0 ≤ M ∧ M ≤ 1000000) (h3 : ¬ 1000 < N) (h4 : ¬ 1000 < M) (hNp : ¬ N % p = 0) (hMp : M % p = 0)
    (ea : ∀ w, Calls Try.prog 16 #[.agg #[.int .i64 x.w, .int .i64 x.x, .int .i64 x.y, .int .i64 x.z, .int .i64 x.d]] w fun e w' => e = .returned (.int .i64 0) ∧ Below w.heap.size w w')
    (eb : ∀ w, Calls Try.prog 16 #[.agg #[.int .i64 y.w, .int .i64 y.x, .int .i64 y.y, .int .i64 y.z, .int .i64 y.d]] w fun e w' => e = .returned (.int .i64 0) ∧ Below w.heap.size w w')
    (pr : ∀ w, Calls Try.prog 54 #[.int .i64 p] w fun e w' => e = .returned (.bool true) ∧ Below w.heap.size w w')
    (ox : ∀ w, Calls Try.prog 17 #[.agg #[.int .i64 x.w, .int .i64 x.x, .int .i64 x.y, .int .i64 x.z, .int .i64 x.d]] w fun e w' => e = .returned (.tuple #[.agg #[.int .i64 X.w, .int .i64 X.x, .int .i64 X.y, .int .i64 X.z], .bool true]) ∧ Below w.heap.size w w')
    (oy : ∀ w, Calls Try.prog 17 #[.agg #[.int .i64 y.w, .int .i64 y.x, .int .i64 y.y, .int .i64 y.z, .int .i64 y.d]] w fun e w' => e = .returned (.tuple #[.agg #[.int .i64 Y.w, .int .i64 Y.x, .int .i64 Y.y, .int .i64 Y.z], .bool true]) ∧ Below w.heap.size w w')
    (nx : ∀ w, Calls Try.prog 21 #[.agg #[.int .i64 X.w, .int .i64 X.x, .int .i64 X.y, .int .i64 X.z]] w fun e w' => e = .returned (.int .i64 N) ∧ Below w.heap.size w w')
    (ny : ∀ w, Calls Try.prog 21 #[.agg #[.int .i64 Y.w, .int .i64 Y.x, .int .i64 Y.y, .int .i64 Y.z]] w fun e w' => e = .returned (.int .i64 M) ∧ Below w.heap.size w w') (w : World) :
    Calls Try.prog 11 #[.agg #[.int .i64 x.w, .int .i64 x.x, .int .i64 x.y, .int .i64 x.z, .int .i64 x.d], .agg #[.int .i64 y.w, .int .i64 y.x, .int .i64 y.y, .int .i64 y.z, .int .i64 y.d], .int .i64 p] w fun e w' => e = .returned (.bool true) ∧ Below w.heap.size w w' := by
  have EA := Lib.hid ea; have EB := Lib.hid eb; have PR := Lib.hid pr; have OX := Lib.hid ox; have OY := Lib.hid oy; have NX := Lib.hid nx; have NY := Lib.hid ny
  clear ea eb pr ox oy nx ny
  have d3 : decide (1000 < N) = false := decide_eq_false h3
  have d4 : decide (1000 < M) = false := decide_eq_false h4
  have p0 : ¬ p = 0 := by omega
  have fN1 : (N % p == 0) = false := by simpa using hNp
  have fN2 : (N.tmod p == 0) = false := by rw [Int.tmod_eq_emod_of_nonneg (by omega)]; exact fN1
  have fM1 : (M % p == 0) = true := by simpa using hMp
  have fM2 : (M.tmod p == 0) = true := by rw [Int.tmod_eq_emod_of_nonneg (by omega)]; exact fM1
  go_enter Try.func11, Try.ntmps11
  go_wp2_with (first | (go_at_call 14; with_reducible refine (awake_any _).mono ?_; rintro e w1 ⟨rfl, hb1⟩; obtain ⟨g1, rfl⟩ := more_of_below hb1; clear hb1) | (go_at_call 16; first | ((with_reducible refine (EA.out _).mono ?_); rintro e w2 ⟨rfl, hb2⟩; obtain ⟨g2, rfl⟩ := more_of_below hb2; clear hb2) | ((with_reducible refine (EB.out _).mono ?_); rintro e w3 ⟨rfl, hb3⟩; obtain ⟨g3, rfl⟩ := more_of_below hb3; clear hb3)) | (go_at_call 54; with_reducible refine (PR.out _).mono ?_; rintro e w4 ⟨rfl, hb4⟩; obtain ⟨g4, rfl⟩ := more_of_below hb4; clear hb4) | (go_at_call 17; first | ((with_reducible refine (OX.out _).mono ?_); rintro e w5 ⟨rfl, hb5⟩; obtain ⟨g5, rfl⟩ := more_of_below hb5; clear hb5) | ((with_reducible refine (OY.out _).mono ?_); rintro e w6 ⟨rfl, hb6⟩; obtain ⟨g6, rfl⟩ := more_of_below hb6; clear hb6)))
  (refine wp_region_quiet (C := Ext _) (by kernel_rfl) (by kernel_rfl) (Ext.start _) ?_; simp only []; (repeat (first | go_big_quiet_skip | (go_big_quiet_want; go_big_quiet_op; first | go_big_quiet_on | (apply Exists.intro; refine ⟨fun w' hw' => ?_, ?_⟩; (focus (first | with_reducible exact rfl | (go_at_call 21; (first | with_reducible exact Ext.call hw' (NX.out _) | with_reducible exact Ext.call hw' (NY.out _))) | (obtain ⟨gx, rfl⟩ := more_of_below (Ext.below hw'); go_simp; exact rfl))); go_big_quiet_on)))); refine wpQuiet_nil ?_; intro w8 hw8; have hb8 := Ext.below hw8; clear hw8; obtain ⟨g8, rfl⟩ := more_of_below hb8; clear hb8)
  go_wp2_with fail
  go_ret
  exact ⟨rfl, by (repeat (first | with_reducible assumption | with_reducible exact Below.refl _ _ | with_reducible refine Below.drewN ?_ _ | with_reducible refine Below.drew ?_ | with_reducible refine Below.alloc ?_ (by first | omega | (simp; done) | (simp; omega)) _ | with_reducible refine Below.setCell ?_ (by first | omega | (simp; done) | (simp; omega)) _ | with_reducible refine below_more _ _ ?_ (by first | omega | (simp; done) | (simp; omega))))⟩
set_option maxRecDepth 100000 in
set_option maxHeartbeats 4000000 in
theorem acts_n5 (x y : Qd) (p : Int) (h : 2 ≤ p) (h2 : p ≤ 31) (X Y : Qt) (N M : Int) (hN : 0 ≤ N ∧ N ≤ 1000000) (hM : 0 ≤ M ∧ M ≤ 1000000) (h3 : ¬ 1000 < N) (h4 : ¬ 1000 < M) (hNp : ¬ N % p = 0) (hMp : ¬ M % p = 0) (h5 : 1000000 < p * N * M)
    (ea : ∀ w, Calls Try.prog 16 #[.agg #[.int .i64 x.w, .int .i64 x.x, .int .i64 x.y, .int .i64 x.z, .int .i64 x.d]] w fun e w' => e = .returned (.int .i64 0) ∧ Below w.heap.size w w')
    (eb : ∀ w, Calls Try.prog 16 #[.agg #[.int .i64 y.w, .int .i64 y.x, .int .i64 y.y, .int .i64 y.z, .int .i64 y.d]] w fun e w' => e = .returned (.int .i64 0) ∧ Below w.heap.size w w')
    (pr : ∀ w, Calls Try.prog 54 #[.int .i64 p] w fun e w' => e = .returned (.bool true) ∧ Below w.heap.size w w')
    (ox : ∀ w, Calls Try.prog 17 #[.agg #[.int .i64 x.w, .int .i64 x.x, .int .i64 x.y, .int .i64 x.z, .int .i64 x.d]] w fun e w' => e = .returned (.tuple #[.agg #[.int .i64 X.w, .int .i64 X.x, .int .i64 X.y, .int .i64 X.z], .bool true]) ∧ Below w.heap.size w w')
    (oy : ∀ w, Calls Try.prog 17 #[.agg #[.int .i64 y.w, .int .i64 y.x, .int .i64 y.y, .int .i64 y.z, .int .i64 y.d]] w fun e w' => e = .returned (.tuple #[.agg #[.int .i64 Y.w, .int .i64 Y.x, .int .i64 Y.y, .int .i64 Y.z], .bool true]) ∧ Below w.heap.size w w')
    (nx : ∀ w, Calls Try.prog 21 #[.agg #[.int .i64 X.w, .int .i64 X.x, .int .i64 X.y, .int .i64 X.z]] w fun e w' => e = .returned (.int .i64 N) ∧ Below w.heap.size w w')
    (ny : ∀ w, Calls Try.prog 21 #[.agg #[.int .i64 Y.w, .int .i64 Y.x, .int .i64 Y.y, .int .i64 Y.z]] w fun e w' => e = .returned (.int .i64 M) ∧ Below w.heap.size w w') (w : World) :
    Calls Try.prog 11 #[.agg #[.int .i64 x.w, .int .i64 x.x, .int .i64 x.y, .int .i64 x.z, .int .i64 x.d], .agg #[.int .i64 y.w, .int .i64 y.x, .int .i64 y.y, .int .i64 y.z, .int .i64 y.d], .int .i64 p] w fun e w' => e = .returned (.bool true) ∧ Below w.heap.size w w' := by
  have EA := Lib.hid ea; have EB := Lib.hid eb; have PR := Lib.hid pr; have OX := Lib.hid ox; have OY := Lib.hid oy; have NX := Lib.hid nx; have NY := Lib.hid ny
  clear ea eb pr ox oy nx ny
  have d3 : decide (1000 < N) = false := decide_eq_false h3
  have d4 : decide (1000 < M) = false := decide_eq_false h4
  have p0 : ¬ p = 0 := by omega
  have fN1 : (N % p == 0) = false := by simpa using hNp
  have fN2 : (N.tmod p == 0) = false := by rw [Int.tmod_eq_emod_of_nonneg (by omega)]; exact fN1
  have fM1 : (M % p == 0) = false := by simpa using hMp
  have fM2 : (M.tmod p == 0) = false := by rw [Int.tmod_eq_emod_of_nonneg (by omega)]; exact fM1
  have q1 : 0 ≤ p * N := Int.mul_nonneg (by omega) hN.1
  have q2 : p * N ≤ 31 * 1000 := Int.mul_le_mul h2 (by omega) hN.1 (by omega)
  have q3 : 0 ≤ p * N * M := Int.mul_nonneg q1 hM.1
  have q4 : p * N * M ≤ 31 * 1000 * 1000 := Int.mul_le_mul q2 (by omega) hM.1 (by omega)
  go_enter Try.func11, Try.ntmps11
  go_wp2_with (first | (go_at_call 14; with_reducible refine (awake_any _).mono ?_; rintro e w1 ⟨rfl, hb1⟩; obtain ⟨g1, rfl⟩ := more_of_below hb1; clear hb1) | (go_at_call 16; first | ((with_reducible refine (EA.out _).mono ?_); rintro e w2 ⟨rfl, hb2⟩; obtain ⟨g2, rfl⟩ := more_of_below hb2; clear hb2) | ((with_reducible refine (EB.out _).mono ?_); rintro e w3 ⟨rfl, hb3⟩; obtain ⟨g3, rfl⟩ := more_of_below hb3; clear hb3)) | (go_at_call 54; with_reducible refine (PR.out _).mono ?_; rintro e w4 ⟨rfl, hb4⟩; obtain ⟨g4, rfl⟩ := more_of_below hb4; clear hb4) | (go_at_call 17; first | ((with_reducible refine (OX.out _).mono ?_); rintro e w5 ⟨rfl, hb5⟩; obtain ⟨g5, rfl⟩ := more_of_below hb5; clear hb5) | ((with_reducible refine (OY.out _).mono ?_); rintro e w6 ⟨rfl, hb6⟩; obtain ⟨g6, rfl⟩ := more_of_below hb6; clear hb6)))
  (refine wp_region_quiet (C := Ext _) (by kernel_rfl) (by kernel_rfl) (Ext.start _) ?_; simp only []; (repeat (first | go_big_quiet_skip | (go_big_quiet_want; go_big_quiet_op; first | go_big_quiet_on | (apply Exists.intro; refine ⟨fun w' hw' => ?_, ?_⟩; (focus (first | with_reducible exact rfl | (go_at_call 21; (first | with_reducible exact Ext.call hw' (NX.out _) | with_reducible exact Ext.call hw' (NY.out _))) | (obtain ⟨gx, rfl⟩ := more_of_below (Ext.below hw'); go_simp; exact rfl))); go_big_quiet_on)))); refine wpQuiet_nil ?_; intro w8 hw8; have hb8 := Ext.below hw8; clear hw8; obtain ⟨g8, rfl⟩ := more_of_below hb8; clear hb8)
  go_wp2_with fail
  go_ret
  exact ⟨rfl, by (repeat (first | with_reducible assumption | with_reducible exact Below.refl _ _ | with_reducible refine Below.drewN ?_ _ | with_reducible refine Below.drew ?_ | with_reducible refine Below.alloc ?_ (by first | omega | (simp; done) | (simp; omega)) _ | with_reducible refine Below.setCell ?_ (by first | omega | (simp; done) | (simp; omega)) _ | with_reducible refine below_more _ _ ?_ (by first | omega | (simp; done) | (simp; omega))))⟩
end Go.Proofs.Ythajaabgcbjfkaa
