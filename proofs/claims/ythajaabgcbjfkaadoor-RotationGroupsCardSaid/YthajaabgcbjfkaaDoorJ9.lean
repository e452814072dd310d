/- The law RotationGroups: the walk. Printed by genj9.py. -/
import Derived.Test.YthajaabgcbjfkaaDoorJ8
namespace Go.Proofs.YthajaabgcbjfkaaDoor
open Go.RowKit Go.BigFrame
attribute [local go_sem ↓] Go.wp_at_zero Go.wp_at_succ

theorem OwnD.empty' (W : World) (base b : Nat) (hb : b = W.heap.size) (h : base ≤ b) : OwnD (W.alloc (.cells #[] 33)) base (.slice (some ⟨b, 0, none⟩) 0 0) [] := by
  subst hb
  exact ⟨by simp [flatD], .inr ⟨W.heap.size, 0, #[], rfl, h, heap_alloc_new W _, Nat.le_refl _, by simp [maxLen], rfl, rfl⟩⟩
set_option maxRecDepth 100000 in
set_option maxHeartbeats 8000000 in
theorem gl_long (a0 : Option Addr) (n cap0 : Nat) (h8 : 8 < n) (hn : n ≤ 9223372036854775807) (m : Int) (w : World) :
    Calls Tryd.prog 3 #[.slice a0 n cap0, .int .i64 m] w fun e w' => e = .returned (.bool true) ∧ Below w.heap.size w w' := by
  go_enter Tryd.func3, Tryd.ntmps3
  go_wp2_with (first | (go_at_call 4; with_reducible refine (awake_any _).mono ?_; rintro e w1 ⟨rfl, hb1⟩; obtain ⟨g1, rfl⟩ := more_of_below hb1; clear hb1))
  go_ret
  exact ⟨rfl, by (repeat (first | with_reducible assumption | with_reducible exact Below.refl _ _ | with_reducible refine Below.drewN ?_ _ | with_reducible refine Below.drew ?_ | with_reducible refine Below.alloc ?_ (by first | omega | (simp; done) | (simp; omega)) _ | with_reducible refine Below.setCell ?_ (by first | omega | (simp; done) | (simp; omega)) _ | with_reducible refine below_more _ _ ?_ (by first | omega | (simp; done) | (simp; omega))))⟩
set_option maxRecDepth 100000 in
set_option maxHeartbeats 8000000 in
theorem gl_nil (m : Int) (w : World) :
    Calls Tryd.prog 3 #[.slice none 0 0, .int .i64 m] w fun e w' => e = .returned (.bool true) ∧ Below w.heap.size w w' := by
  go_enter Tryd.func3, Tryd.ntmps3
  go_wp2_with (first | (go_at_call 4; with_reducible refine (awake_any _).mono ?_; rintro e w1 ⟨rfl, hb1⟩; obtain ⟨g1, rfl⟩ := more_of_below hb1; clear hb1) | (go_at_call 5; with_reducible refine (group_err _ _ 2 (by decide) _ (steps_len 0 (.inl (by omega)) (by omega) _ _ _)).mono ?_; rintro e w6 ⟨rfl, hb6⟩; obtain ⟨g6, rfl⟩ := more_of_below hb6; clear hb6) | (go_at_call 6; with_reducible refine (rgens_len 0 _ _ (by decide) _).mono ?_; rintro e w7 ⟨rfl, hb7⟩; obtain ⟨g7, rfl⟩ := more_of_below hb7; clear hb7))
  go_ret
  exact ⟨rfl, by (repeat (first | with_reducible assumption | with_reducible exact Below.refl _ _ | with_reducible refine Below.drewN ?_ _ | with_reducible refine Below.drew ?_ | with_reducible refine Below.alloc ?_ (by first | omega | (simp; done) | (simp; omega)) _ | with_reducible refine Below.setCell ?_ (by first | omega | (simp; done) | (simp; omega)) _ | with_reducible refine below_more _ _ ?_ (by first | omega | (simp; done) | (simp; omega))))⟩
set_option maxRecDepth 100000 in
set_option maxHeartbeats 8000000 in
theorem gl_err1 (a : Addr) (n cap0 : Nat) (h8 : n ≤ 8) (l : List Qd) (hl : n = l.length) (m : Int) (w : World) (hza : QAt w a l) (E : Int) (hE : E ≠ 0)
    (pg : ∀ W v, OwnD W w.heap.size v l → Calls Tryd.prog 5 #[v, .int .i64 m] W fun e w' => e = .returned (.tuple #[.slice none 0 0, .int .i64 E]) ∧ Below W.heap.size W w')
    (ge : ∀ W, Below w.heap.size w W → Calls Tryd.prog 6 #[.slice (some a) n cap0] W fun e w' => e = .returned (.int .i64 E) ∧ Below W.heap.size W w') :
    Calls Tryd.prog 3 #[.slice (some a) n cap0, .int .i64 m] w fun e w' => e = .returned (.bool true) ∧ Below w.heap.size w w' := by
  have PG : Hid _ := pg; have GE : Hid _ := ge; have HZA := Lib.hid hza; have HL := Lib.hid hl
  clear pg ge hza hl
  have e1 : (E == 0) = false := by simpa using hE
  have e2 : (E != 0) = true := by simpa using hE
  have e3 : (E == E) = true := by simp
  clear hE
  go_enter Tryd.func3, Tryd.ntmps3
  go_wp2_with (first | (go_at_call 4; with_reducible refine (awake_any _).mono ?_; rintro e w1 ⟨rfl, hb1⟩; obtain ⟨g1, rfl⟩ := more_of_below hb1; clear hb1) | (at_builtin; go_must (refine append_quats (w0 := w) (base := w.heap.size) (l := []) ?_ ?_ ?_ l a n cap0 HL.out ?_ ?_ rfl (.tmp 20) (.tmp 21) rfl (by rfl) (by rfl) ?_); (focus (exact OwnD.empty' _ _ _ (by (first | rfl | omega | (simp; done) | (simp; omega) | (simp only [size_more_eq, World.size_alloc]; omega))) (by (first | rfl | omega | (simp; done) | (simp; omega) | (simp only [size_more_eq, World.size_alloc]; omega))))); (focus ((repeat (first | with_reducible assumption | with_reducible exact Below.refl _ _ | with_reducible refine Below.drewN ?_ _ | with_reducible refine Below.drew ?_ | with_reducible refine Below.alloc ?_ (by first | omega | (simp; done) | (simp; omega)) _ | with_reducible refine Below.setCell ?_ (by first | omega | (simp; done) | (simp; omega)) _ | with_reducible refine below_more _ _ ?_ (by first | omega | (simp; done) | (simp; omega)))))); (focus (first | rfl | omega | (simp; done) | (simp; omega) | (simp only [size_more_eq, World.size_alloc]; omega))); (focus (exact HZA.out.below (B := w.heap.size) (by (repeat (first | with_reducible assumption | with_reducible exact Below.refl _ _ | with_reducible refine Below.drewN ?_ _ | with_reducible refine Below.drew ?_ | with_reducible refine Below.alloc ?_ (by first | omega | (simp; done) | (simp; omega)) _ | with_reducible refine Below.setCell ?_ (by first | omega | (simp; done) | (simp; omega)) _ | with_reducible refine below_more _ _ ?_ (by first | omega | (simp; done) | (simp; omega))))) (Nat.le_refl _))); (focus (have h1 := HL.out; simp; omega)); intro v5 w5 hown5 hB5 hz5; have HO5 := Lib.hid hown5; clear hown5) | (go_at_call 5; (with_reducible refine (PG.out _ _ ?_).mono ?_); (focus (exact HO5.out)); rintro e w6 ⟨rfl, hb6⟩; obtain ⟨g6, rfl⟩ := more_of_below hb6; clear hb6) | (go_at_call 6; (with_reducible refine (GE.out _ ?_).mono ?_); (focus ((repeat (first | with_reducible assumption | with_reducible exact Below.refl _ _ | with_reducible refine Below.drewN ?_ _ | with_reducible refine Below.drew ?_ | with_reducible refine Below.alloc ?_ (by first | omega | (simp; done) | (simp; omega)) _ | with_reducible refine Below.setCell ?_ (by first | omega | (simp; done) | (simp; omega)) _ | with_reducible refine below_more _ _ ?_ (by first | omega | (simp; done) | (simp; omega)))))); rintro e w7 ⟨rfl, hb7⟩; obtain ⟨g7, rfl⟩ := more_of_below hb7; clear hb7))
  go_ret
  exact ⟨rfl, by (repeat (first | with_reducible assumption | with_reducible exact Below.refl _ _ | with_reducible refine Below.drewN ?_ _ | with_reducible refine Below.drew ?_ | with_reducible refine Below.alloc ?_ (by first | omega | (simp; done) | (simp; omega)) _ | with_reducible refine Below.setCell ?_ (by first | omega | (simp; done) | (simp; omega)) _ | with_reducible refine below_more _ _ ?_ (by first | omega | (simp; done) | (simp; omega))))⟩
set_option maxRecDepth 100000 in
set_option maxHeartbeats 8000000 in
theorem gl_err2 (a : Addr) (n cap0 : Nat) (h8 : n ≤ 8) (l : List Qd) (hl : n = l.length) (m : Int) (w : World) (hza : QAt w a l) (hw : inB m 1 60 = false)
    (pg : ∀ W v, OwnD W w.heap.size v l → Calls Tryd.prog 5 #[v, .int .i64 m] W fun e w' => e = .returned (.tuple #[.slice none 0 0, .int .i64 2]) ∧ Below W.heap.size W w')
    (ge : ∀ W, Below w.heap.size w W → Calls Tryd.prog 6 #[.slice (some a) n cap0] W fun e w' => e = .returned (.int .i64 0) ∧ Below W.heap.size W w') :
    Calls Tryd.prog 3 #[.slice (some a) n cap0, .int .i64 m] w fun e w' => e = .returned (.bool true) ∧ Below w.heap.size w w' := by
  have PG : Hid _ := pg; have GE : Hid _ := ge; have HZA := Lib.hid hza; have HL := Lib.hid hl
  clear pg ge hza hl
  have WI := Lib.hid (within_any m 1 60)
  rw [hw] at WI
  clear hw
  go_enter Tryd.func3, Tryd.ntmps3
  go_wp2_with (first | (go_at_call 4; with_reducible refine (awake_any _).mono ?_; rintro e w1 ⟨rfl, hb1⟩; obtain ⟨g1, rfl⟩ := more_of_below hb1; clear hb1) | (at_builtin; go_must (refine append_quats (w0 := w) (base := w.heap.size) (l := []) ?_ ?_ ?_ l a n cap0 HL.out ?_ ?_ rfl (.tmp 20) (.tmp 21) rfl (by rfl) (by rfl) ?_); (focus (exact OwnD.empty' _ _ _ (by (first | rfl | omega | (simp; done) | (simp; omega) | (simp only [size_more_eq, World.size_alloc]; omega))) (by (first | rfl | omega | (simp; done) | (simp; omega) | (simp only [size_more_eq, World.size_alloc]; omega))))); (focus ((repeat (first | with_reducible assumption | with_reducible exact Below.refl _ _ | with_reducible refine Below.drewN ?_ _ | with_reducible refine Below.drew ?_ | with_reducible refine Below.alloc ?_ (by first | omega | (simp; done) | (simp; omega)) _ | with_reducible refine Below.setCell ?_ (by first | omega | (simp; done) | (simp; omega)) _ | with_reducible refine below_more _ _ ?_ (by first | omega | (simp; done) | (simp; omega)))))); (focus (first | rfl | omega | (simp; done) | (simp; omega) | (simp only [size_more_eq, World.size_alloc]; omega))); (focus (exact HZA.out.below (B := w.heap.size) (by (repeat (first | with_reducible assumption | with_reducible exact Below.refl _ _ | with_reducible refine Below.drewN ?_ _ | with_reducible refine Below.drew ?_ | with_reducible refine Below.alloc ?_ (by first | omega | (simp; done) | (simp; omega)) _ | with_reducible refine Below.setCell ?_ (by first | omega | (simp; done) | (simp; omega)) _ | with_reducible refine below_more _ _ ?_ (by first | omega | (simp; done) | (simp; omega))))) (Nat.le_refl _))); (focus (have h1 := HL.out; simp; omega)); intro v5 w5 hown5 hB5 hz5; have HO5 := Lib.hid hown5; clear hown5) | (go_at_call 5; (with_reducible refine (PG.out _ _ ?_).mono ?_); (focus (exact HO5.out)); rintro e w6 ⟨rfl, hb6⟩; obtain ⟨g6, rfl⟩ := more_of_below hb6; clear hb6) | (go_at_call 6; (with_reducible refine (GE.out _ ?_).mono ?_); (focus ((repeat (first | with_reducible assumption | with_reducible exact Below.refl _ _ | with_reducible refine Below.drewN ?_ _ | with_reducible refine Below.drew ?_ | with_reducible refine Below.alloc ?_ (by first | omega | (simp; done) | (simp; omega)) _ | with_reducible refine Below.setCell ?_ (by first | omega | (simp; done) | (simp; omega)) _ | with_reducible refine below_more _ _ ?_ (by first | omega | (simp; done) | (simp; omega)))))); rintro e w7 ⟨rfl, hb7⟩; obtain ⟨g7, rfl⟩ := more_of_below hb7; clear hb7) | (go_at_call 7; with_reducible refine (WI.out _).mono ?_; rintro e w' ⟨rfl, rfl⟩))
  go_ret
  exact ⟨rfl, by (repeat (first | with_reducible assumption | with_reducible exact Below.refl _ _ | with_reducible refine Below.drewN ?_ _ | with_reducible refine Below.drew ?_ | with_reducible refine Below.alloc ?_ (by first | omega | (simp; done) | (simp; omega)) _ | with_reducible refine Below.setCell ?_ (by first | omega | (simp; done) | (simp; omega)) _ | with_reducible refine below_more _ _ ?_ (by first | omega | (simp; done) | (simp; omega))))⟩
set_option maxRecDepth 100000 in
set_option maxHeartbeats 8000000 in
theorem gl_err3 (a : Addr) (n cap0 : Nat) (h8 : n ≤ 8) (l : List Qd) (hl : n = l.length) (m : Int) (w : World) (hza : QAt w a l) (hw : inB m 1 60 = true)
    (pg : ∀ W v, OwnD W w.heap.size v l → Below w.heap.size w W → Calls Tryd.prog 5 #[v, .int .i64 m] W fun e w' => e = .returned (.tuple #[.slice none 0 0, .int .i64 8]) ∧ Below W.heap.size W w')
    (ge : ∀ W, Below w.heap.size w W → Calls Tryd.prog 6 #[.slice (some a) n cap0] W fun e w' => e = .returned (.int .i64 0) ∧ Below W.heap.size W w')
    (rg : ∀ W, Below w.heap.size w W → Calls Tryd.prog 8 #[.slice (some a) n cap0, .int .i64 m] W fun e w' => e = .returned (.tuple #[.slice none 0 0, .int .i64 8]) ∧ Below W.heap.size W w') :
    Calls Tryd.prog 3 #[.slice (some a) n cap0, .int .i64 m] w fun e w' => e = .returned (.bool true) ∧ Below w.heap.size w w' := by
  have PG : Hid _ := pg; have GE : Hid _ := ge; have RG : Hid _ := rg; have HZA := Lib.hid hza; have HL := Lib.hid hl
  clear pg ge rg hza hl
  have WI := Lib.hid (within_any m 1 60)
  rw [hw] at WI
  clear hw
  go_enter Tryd.func3, Tryd.ntmps3
  go_wp2_with (first | (go_at_call 4; with_reducible refine (awake_any _).mono ?_; rintro e w1 ⟨rfl, hb1⟩; obtain ⟨g1, rfl⟩ := more_of_below hb1; clear hb1) | (at_builtin; go_must (refine append_quats (w0 := w) (base := w.heap.size) (l := []) ?_ ?_ ?_ l a n cap0 HL.out ?_ ?_ rfl (.tmp 20) (.tmp 21) rfl (by rfl) (by rfl) ?_); (focus (exact OwnD.empty' _ _ _ (by (first | rfl | omega | (simp; done) | (simp; omega) | (simp only [size_more_eq, World.size_alloc]; omega))) (by (first | rfl | omega | (simp; done) | (simp; omega) | (simp only [size_more_eq, World.size_alloc]; omega))))); (focus ((repeat (first | with_reducible assumption | with_reducible exact Below.refl _ _ | with_reducible refine Below.drewN ?_ _ | with_reducible refine Below.drew ?_ | with_reducible refine Below.alloc ?_ (by first | omega | (simp; done) | (simp; omega)) _ | with_reducible refine Below.setCell ?_ (by first | omega | (simp; done) | (simp; omega)) _ | with_reducible refine below_more _ _ ?_ (by first | omega | (simp; done) | (simp; omega)))))); (focus (first | rfl | omega | (simp; done) | (simp; omega) | (simp only [size_more_eq, World.size_alloc]; omega))); (focus (exact HZA.out.below (B := w.heap.size) (by (repeat (first | with_reducible assumption | with_reducible exact Below.refl _ _ | with_reducible refine Below.drewN ?_ _ | with_reducible refine Below.drew ?_ | with_reducible refine Below.alloc ?_ (by first | omega | (simp; done) | (simp; omega)) _ | with_reducible refine Below.setCell ?_ (by first | omega | (simp; done) | (simp; omega)) _ | with_reducible refine below_more _ _ ?_ (by first | omega | (simp; done) | (simp; omega))))) (Nat.le_refl _))); (focus (have h1 := HL.out; simp; omega)); intro v5 w5 hown5 hB5 hz5; have HO5 := Lib.hid hown5; clear hown5) | (go_at_call 5; (with_reducible refine (PG.out _ _ ?_ ?_).mono ?_); (focus (exact HO5.out)); (focus ((repeat (first | with_reducible assumption | with_reducible exact Below.refl _ _ | with_reducible refine Below.drewN ?_ _ | with_reducible refine Below.drew ?_ | with_reducible refine Below.alloc ?_ (by first | omega | (simp; done) | (simp; omega)) _ | with_reducible refine Below.setCell ?_ (by first | omega | (simp; done) | (simp; omega)) _ | with_reducible refine below_more _ _ ?_ (by first | omega | (simp; done) | (simp; omega)))))); rintro e w6 ⟨rfl, hb6⟩; obtain ⟨g6, rfl⟩ := more_of_below hb6; clear hb6) | (go_at_call 6; (with_reducible refine (GE.out _ ?_).mono ?_); (focus ((repeat (first | with_reducible assumption | with_reducible exact Below.refl _ _ | with_reducible refine Below.drewN ?_ _ | with_reducible refine Below.drew ?_ | with_reducible refine Below.alloc ?_ (by first | omega | (simp; done) | (simp; omega)) _ | with_reducible refine Below.setCell ?_ (by first | omega | (simp; done) | (simp; omega)) _ | with_reducible refine below_more _ _ ?_ (by first | omega | (simp; done) | (simp; omega)))))); rintro e w7 ⟨rfl, hb7⟩; obtain ⟨g7, rfl⟩ := more_of_below hb7; clear hb7) | (go_at_call 7; with_reducible refine (WI.out _).mono ?_; rintro e w' ⟨rfl, rfl⟩) | (go_at_call 8; (with_reducible refine (RG.out _ ?_).mono ?_); (focus ((repeat (first | with_reducible assumption | with_reducible exact Below.refl _ _ | with_reducible refine Below.drewN ?_ _ | with_reducible refine Below.drew ?_ | with_reducible refine Below.alloc ?_ (by first | omega | (simp; done) | (simp; omega)) _ | with_reducible refine Below.setCell ?_ (by first | omega | (simp; done) | (simp; omega)) _ | with_reducible refine below_more _ _ ?_ (by first | omega | (simp; done) | (simp; omega)))))); rintro e w8 ⟨rfl, hb8⟩; obtain ⟨g8, rfl⟩ := more_of_below hb8; clear hb8))
  go_ret
  exact ⟨rfl, by (repeat (first | with_reducible assumption | with_reducible exact Below.refl _ _ | with_reducible refine Below.drewN ?_ _ | with_reducible refine Below.drew ?_ | with_reducible refine Below.alloc ?_ (by first | omega | (simp; done) | (simp; omega)) _ | with_reducible refine Below.setCell ?_ (by first | omega | (simp; done) | (simp; omega)) _ | with_reducible refine below_more _ _ ?_ (by first | omega | (simp; done) | (simp; omega))))⟩
/-- What the law's loops read. -/
structure GW (w W0 : World) (gl g : Nat) (C : List Qt) : Prop where
  bel : Below w.heap.size w W0
  l1 : gl < W0.heap.size
  l2 : g < W0.heap.size
  q5 : ∀ k q, C[k]? = some q → Q5 W0 gl k (whQ q)
  h4 : ∀ k q, C[k]? = some q → H4 W0 g k q
set_option maxRecDepth 100000 in
set_option maxHeartbeats 8000000 in
theorem gl_ok (a : Addr) (n cap0 : Nat) (h8 : n ≤ 8) (l : List Qd) (hl : n = l.length) (m : Int) (w : World) (hza : QAt w a l) (hw : inB m 1 60 = true) (C : List Qt) (hC : C.length ≤ 60) (hin : ∀ q ∈ C, q.InR) (hinv : ∀ q ∈ C, Qt.inv q ∈ C)
    (pg : ∀ W v, OwnD W w.heap.size v l → Below w.heap.size w W → Calls Tryd.prog 5 #[v, .int .i64 m] W fun e w' => (∃ gl cl, e = .returned (.tuple #[.slice (some ⟨gl, 0, none⟩) C.length cl, .int .i64 0]) ∧ gl < w'.heap.size ∧ ∀ k q, C[k]? = some q → Q5 w' gl k (whQ q)) ∧ Below W.heap.size W w')
    (ge : ∀ W, Below w.heap.size w W → Calls Tryd.prog 6 #[.slice (some a) n cap0] W fun e w' => e = .returned (.int .i64 0) ∧ Below W.heap.size W w')
    (rg : ∀ W, Below w.heap.size w W → Calls Tryd.prog 8 #[.slice (some a) n cap0, .int .i64 m] W fun e w' => (∃ g cp, e = .returned (.tuple #[.slice (some ⟨g, 0, none⟩) C.length cp, .int .i64 0]) ∧ g < w'.heap.size ∧ ∀ k q, C[k]? = some q → H4 w' g k q) ∧ Below W.heap.size W w')
    (rr : ∀ q ∈ C, ∀ w, Calls Tryd.prog 10 #[.agg #[.int .i64 q.w, .int .i64 (-q.x), .int .i64 (-q.y), .int .i64 (-q.z)]] w fun e w' => e = .returned (.agg #[.int .i64 (Qt.inv q).w, .int .i64 (Qt.inv q).x, .int .i64 (Qt.inv q).y, .int .i64 (Qt.inv q).z]) ∧ Below w.heap.size w w') :
    Calls Tryd.prog 3 #[.slice (some a) n cap0, .int .i64 m] w fun e w' => e = .returned (.bool true) ∧ Below w.heap.size w w' := by
  have PG : Hid _ := pg; have GE : Hid _ := ge; have RG : Hid _ := rg; have RR : Hid _ := rr; have HZA := Lib.hid hza; have HL := Lib.hid hl
  clear pg ge rg rr hza hl
  have HIN : Hid _ := hin; have HINV : Hid _ := hinv
  clear hin hinv
  have WI := Lib.hid (within_any m 1 60)
  rw [hw] at WI
  clear hw
  obtain ⟨nc, hnc⟩ : ∃ nc, nc = C.length := ⟨_, rfl⟩
  have HNC := Lib.hid hnc
  rw [← hnc] at PG RG hC
  clear hnc
  go_enter Tryd.func3, Tryd.ntmps3
  go_wp2_with (first | (go_at_call 4; with_reducible refine (awake_any _).mono ?_; rintro e w1 ⟨rfl, hb1⟩; obtain ⟨g1, rfl⟩ := more_of_below hb1; clear hb1) | (at_builtin; go_must (refine append_quats (w0 := w) (base := w.heap.size) (l := []) ?_ ?_ ?_ l a n cap0 HL.out ?_ ?_ rfl (.tmp 20) (.tmp 21) rfl (by rfl) (by rfl) ?_); (focus (exact OwnD.empty' _ _ _ (by (first | rfl | omega | (simp; done) | (simp; omega) | (simp only [size_more_eq, World.size_alloc]; omega))) (by (first | rfl | omega | (simp; done) | (simp; omega) | (simp only [size_more_eq, World.size_alloc]; omega))))); (focus ((repeat (first | with_reducible assumption | with_reducible exact Below.refl _ _ | with_reducible refine Below.drewN ?_ _ | with_reducible refine Below.drew ?_ | with_reducible refine Below.alloc ?_ (by first | omega | (simp; done) | (simp; omega)) _ | with_reducible refine Below.setCell ?_ (by first | omega | (simp; done) | (simp; omega)) _ | with_reducible refine below_more _ _ ?_ (by first | omega | (simp; done) | (simp; omega)))))); (focus (first | rfl | omega | (simp; done) | (simp; omega) | (simp only [size_more_eq, World.size_alloc]; omega))); (focus (exact HZA.out.below (B := w.heap.size) (by (repeat (first | with_reducible assumption | with_reducible exact Below.refl _ _ | with_reducible refine Below.drewN ?_ _ | with_reducible refine Below.drew ?_ | with_reducible refine Below.alloc ?_ (by first | omega | (simp; done) | (simp; omega)) _ | with_reducible refine Below.setCell ?_ (by first | omega | (simp; done) | (simp; omega)) _ | with_reducible refine below_more _ _ ?_ (by first | omega | (simp; done) | (simp; omega))))) (Nat.le_refl _))); (focus (have h1 := HL.out; simp; omega)); intro v5 w5 hown5 hB5 hz5; have HO5 := Lib.hid hown5; clear hown5) | (go_at_call 5; (with_reducible refine (PG.out _ _ ?_ ?_).mono ?_); (focus (exact HO5.out)); (focus ((repeat (first | with_reducible assumption | with_reducible exact Below.refl _ _ | with_reducible refine Below.drewN ?_ _ | with_reducible refine Below.drew ?_ | with_reducible refine Below.alloc ?_ (by first | omega | (simp; done) | (simp; omega)) _ | with_reducible refine Below.setCell ?_ (by first | omega | (simp; done) | (simp; omega)) _ | with_reducible refine below_more _ _ ?_ (by first | omega | (simp; done) | (simp; omega)))))); rintro e w6 ⟨⟨gl, cl, rfl, hgl6, hq6⟩, hb6⟩; have HQ6 := Lib.hid hq6; clear hq6; have HB6 := Lib.hid hb6; have hB6 : Below w.heap.size w w6 := Below.trans hB5 (hb6.mono hB5.size); clear hb6) | (go_at_call 6; (with_reducible refine (GE.out _ ?_).mono ?_); (focus ((repeat (first | with_reducible assumption | with_reducible exact Below.refl _ _ | with_reducible refine Below.drewN ?_ _ | with_reducible refine Below.drew ?_ | with_reducible refine Below.alloc ?_ (by first | omega | (simp; done) | (simp; omega)) _ | with_reducible refine Below.setCell ?_ (by first | omega | (simp; done) | (simp; omega)) _ | with_reducible refine below_more _ _ ?_ (by first | omega | (simp; done) | (simp; omega)))))); rintro e w7 ⟨rfl, hb7⟩; have HB7 := Lib.hid hb7; have hB7 : Below w.heap.size w w7 := Below.trans hB6 (hb7.mono hB6.size); clear hb7) | (go_at_call 7; with_reducible refine (WI.out _).mono ?_; rintro e w' ⟨rfl, rfl⟩) | (go_at_call 8; (with_reducible refine (RG.out _ ?_).mono ?_); (focus ((repeat (first | with_reducible assumption | with_reducible exact Below.refl _ _ | with_reducible refine Below.drewN ?_ _ | with_reducible refine Below.drew ?_ | with_reducible refine Below.alloc ?_ (by first | omega | (simp; done) | (simp; omega)) _ | with_reducible refine Below.setCell ?_ (by first | omega | (simp; done) | (simp; omega)) _ | with_reducible refine below_more _ _ ?_ (by first | omega | (simp; done) | (simp; omega)))))); rintro e W0 ⟨⟨g, cp, rfl, hg8, hq8⟩, hb8⟩; have GWo : Hid (GW w W0 gl g C) := ⟨Below.trans hB7 (hb8.mono hB7.size), Nat.lt_of_lt_of_le (Nat.lt_of_lt_of_le hgl6 HB7.out.size) hb8.size, hg8, fun k q hq => ((HQ6.out k q hq).below HB7.out hgl6).below hb8 (Nat.lt_of_lt_of_le hgl6 HB7.out.size), hq8⟩; clear hq8 hb8 hg8 hgl6 hB5 hB6 hB7 HB6 HB7 HQ6))
  go_loopw [9] (fun i wr => ∃ k : Nat, k ≤ nc ∧ i = .int .i64 k ∧ Ext W0 wr) (fun i _ => nc - (intOf i).toNat)
  case atStart => exact ⟨0, by omega, rfl, Ext.refl _⟩
  case round =>
    obtain ⟨k, hk, rfl, hext⟩ := hrel
    obtain ⟨gx, rfl⟩ := more_of_below (Ext.below hext)
    clear hext
    by_cases hkn : k < nc
    · obtain ⟨x, hx⟩ : ∃ x, C[k]? = some x := ⟨C[k]'(by rw [← HNC.out]; exact hkn), List.getElem?_eq_getElem _⟩
      have hxm := List.mem_of_getElem? hx
      have l1 := GWo.out.l1
      have l2 := GWo.out.l2
      obtain ⟨c0, c1, c2, c3, c4⟩ := GWo.out.q5 k x hx
      obtain ⟨h0, h1, h2, h3⟩ := GWo.out.h4 k x hx
      obtain ⟨⟨b0, b0'⟩, ⟨b1, b1'⟩, ⟨b2, b2'⟩, ⟨b3, b3'⟩⟩ := HIN.out x hxm
      have RRx := Lib.hid (RR.out x hxm)
      have HT := Lib.hid (HINV.out x hxm)
      generalize Qt.inv x = t at *
      have RWx := Lib.hid (rwhole4_any x)
      simp only [whQ] at c0 c1 c2 c3 c4
      have hE : Qd.eqb ⟨x.w, x.x, x.y, x.z, 1⟩ ⟨x.w, x.x, x.y, x.z, 1⟩ = true := Qd.eqb_iff.2 rfl
      have kn : (k : Int) < (nc : Int) := by omega
      clear hx hxm
      go_wp2_with fail
      (refine wp_region_quiet (C := Ext _) (by kernel_rfl) (by kernel_rfl) (Ext.start _) ?_; simp only []; (repeat (first | go_big_quiet_skip | (go_big_quiet_want; go_big_quiet_op; first | go_big_quiet_on | (apply Exists.intro; refine ⟨fun w' hw' => ?_, ?_⟩; (focus (first | with_reducible exact rfl | (go_at_call 9; (with_reducible exact Ext.call hw' (RWx.out _))) | (obtain ⟨gx, rfl⟩ := more_of_below (Ext.below hw'); go_simp; exact rfl))); go_big_quiet_on)))); refine wpQuiet_nil ?_; intro w19 hw19; have hb19 := Ext.below hw19; clear hw19; obtain ⟨g19, rfl⟩ := more_of_below hb19; clear hb19)
      go_wp2_with (first | (go_at_call 10; with_reducible refine (RRx.out _).mono ?_; rintro e w22 ⟨rfl, hb22⟩; obtain ⟨g22, rfl⟩ := more_of_below hb22; clear hb22))
      clear c0 c1 c2 c3 c4 h0 h1 h2 h3 hE
      go_loopw [12, 13] (fun f j wr => ∃ (i : Nat) (b : Bool), i ≤ nc ∧ j = .int .i64 i ∧ f = .bool b ∧ Hid (b = true ↔ t ∈ C.take i) ∧ Ext ((more (((more (more W0 gx) g19)).alloc (.cells #[.int .i64 x.w, .int .i64 x.x, .int .i64 x.y, .int .i64 x.z] 35)) g22).alloc (.cells #[.int .i64 t.w, .int .i64 t.x, .int .i64 t.y, .int .i64 t.z] 35)) wr) (fun _ j _ => nc - (intOf j).toNat)
      case atStart => exact ⟨0, false, by omega, rfl, rfl, (by simp : false = true ↔ t ∈ C.take 0), Ext.refl _⟩
      case round =>
        obtain ⟨i, b, hi, rfl, rfl, HF, hext⟩ := hrel
        obtain ⟨gy, rfl⟩ := more_of_below (Ext.below hext)
        clear hext
        by_cases hin2 : i < nc
        · obtain ⟨y, hy⟩ : ∃ y, C[i]? = some y := ⟨C[i]'(by rw [← HNC.out]; exact hin2), List.getElem?_eq_getElem _⟩
          obtain ⟨h0, h1, h2, h3⟩ := GWo.out.h4 i y hy
          have HTK := Lib.hid (take_snocJ hy)
          have knj : (i : Int) < (nc : Int) := by omega
          clear hy
          cases b
          · cases he : Qt.eqb y t
            · have hE2 : Qt.eqb ⟨y.w, y.x, y.y, y.z⟩ ⟨t.w, t.x, t.y, t.z⟩ = false := he
              have HR : Hid (false = true ↔ t ∈ C.take (i + 1)) := by
                have h1 := HF.out
                have hne : ¬ t = y := fun e => by rw [e, Qt.eqb_iff.2 rfl] at he; cases he
                rw [HTK.out, List.mem_append, List.mem_singleton]
                simp only [Bool.false_eq_true, false_iff, not_or] at h1 ⊢
                exact ⟨h1, hne⟩
              clear he HF HTK
              go_wp2_with fail
              (refine wp_region_quiet (C := Ext _) (by kernel_rfl) (by kernel_rfl) (Ext.start _) ?_; simp only []; (repeat (first | go_big_quiet_skip | (go_big_quiet_want; go_big_quiet_op; first | go_big_quiet_on | (apply Exists.intro; refine ⟨fun w' hw' => ?_, ?_⟩; (focus (first | with_reducible exact rfl | (go_at_call 9; fail) | (obtain ⟨gx, rfl⟩ := more_of_below (Ext.below hw'); go_simp; exact rfl))); go_big_quiet_on)))); refine wpQuiet_nil ?_; intro w27 hw27; have hb27 := Ext.below hw27; clear hw27; obtain ⟨g27, rfl⟩ := more_of_below hb27; clear hb27)
              go_wp2_with fail
              go_roundw
              case rel => exact ⟨i + 1, false, by omega, by go_num, rfl, HR, ext_mk (by (repeat (first | with_reducible assumption | with_reducible exact Below.refl _ _ | with_reducible refine Below.drewN ?_ _ | with_reducible refine Below.drew ?_ | with_reducible refine Below.alloc ?_ (by first | omega | (simp; done) | (simp; omega)) _ | with_reducible refine Below.setCell ?_ (by first | omega | (simp; done) | (simp; omega)) _ | with_reducible refine below_more _ _ ?_ (by first | omega | (simp; done) | (simp; omega)))))⟩
              case measure => simp [intOf]; omega
            · have hE2 : Qt.eqb ⟨y.w, y.x, y.y, y.z⟩ ⟨t.w, t.x, t.y, t.z⟩ = true := he
              have HR : Hid (t ∈ C.take (i + 1)) := by
                have hne := Qt.eqb_iff.1 he
                rw [HTK.out, List.mem_append, List.mem_singleton]
                exact .inr hne.symm
              clear he HF HTK
              go_wp2_with fail
              (refine wp_region_quiet (C := Ext _) (by kernel_rfl) (by kernel_rfl) (Ext.start _) ?_; simp only []; (repeat (first | go_big_quiet_skip | (go_big_quiet_want; go_big_quiet_op; first | go_big_quiet_on | (apply Exists.intro; refine ⟨fun w' hw' => ?_, ?_⟩; (focus (first | with_reducible exact rfl | (go_at_call 9; fail) | (obtain ⟨gx, rfl⟩ := more_of_below (Ext.below hw'); go_simp; exact rfl))); go_big_quiet_on)))); refine wpQuiet_nil ?_; intro w27 hw27; have hb27 := Ext.below hw27; clear hw27; obtain ⟨g27, rfl⟩ := more_of_below hb27; clear hb27)
              go_wp2_with fail
              go_roundw
              case rel => exact ⟨i + 1, true, by omega, by go_num, rfl, Lib.hid (⟨fun _ => HR.out, fun _ => rfl⟩ : true = true ↔ t ∈ C.take (i + 1)), ext_mk (by (repeat (first | with_reducible assumption | with_reducible exact Below.refl _ _ | with_reducible refine Below.drewN ?_ _ | with_reducible refine Below.drew ?_ | with_reducible refine Below.alloc ?_ (by first | omega | (simp; done) | (simp; omega)) _ | with_reducible refine Below.setCell ?_ (by first | omega | (simp; done) | (simp; omega)) _ | with_reducible refine below_more _ _ ?_ (by first | omega | (simp; done) | (simp; omega)))))⟩
              case measure => simp [intOf]; omega
          · have HR : Hid (t ∈ C.take (i + 1)) := by
              have h1 := HF.out.1 rfl
              rw [HTK.out, List.mem_append]
              exact .inl h1
            clear HF HTK
            go_wp2_with fail
            (refine wp_region_quiet (C := Ext _) (by kernel_rfl) (by kernel_rfl) (Ext.start _) ?_; simp only []; (repeat (first | go_big_quiet_skip | (go_big_quiet_want; go_big_quiet_op; first | go_big_quiet_on | (apply Exists.intro; refine ⟨fun w' hw' => ?_, ?_⟩; (focus (first | with_reducible exact rfl | (go_at_call 9; fail) | (obtain ⟨gx, rfl⟩ := more_of_below (Ext.below hw'); go_simp; exact rfl))); go_big_quiet_on)))); refine wpQuiet_nil ?_; intro w27 hw27; have hb27 := Ext.below hw27; clear hw27; obtain ⟨g27, rfl⟩ := more_of_below hb27; clear hb27)
            go_wp2_with fail
            go_roundw
            case rel => exact ⟨i + 1, true, by omega, by go_num, rfl, Lib.hid (⟨fun _ => HR.out, fun _ => rfl⟩ : true = true ↔ t ∈ C.take (i + 1)), ext_mk (by (repeat (first | with_reducible assumption | with_reducible exact Below.refl _ _ | with_reducible refine Below.drewN ?_ _ | with_reducible refine Below.drew ?_ | with_reducible refine Below.alloc ?_ (by first | omega | (simp; done) | (simp; omega)) _ | with_reducible refine Below.setCell ?_ (by first | omega | (simp; done) | (simp; omega)) _ | with_reducible refine below_more _ _ ?_ (by first | omega | (simp; done) | (simp; omega)))))⟩
            case measure => simp [intOf]; omega
        · obtain rfl : i = nc := by omega
          have hb : b = true := HF.out.2 (by rw [List.take_of_length_le (Nat.le_of_eq HNC.out.symm)]; exact HT.out)
          subst hb
          have knj : ¬ (i : Int) < (i : Int) := by omega
          go_wp2_with fail
          go_roundw
          case rel => exact ⟨k + 1, by omega, by go_num, ext_mk (by (repeat (first | with_reducible assumption | with_reducible exact Below.refl _ _ | with_reducible refine Below.drewN ?_ _ | with_reducible refine Below.drew ?_ | with_reducible refine Below.alloc ?_ (by first | omega | (simp; done) | (simp; omega)) _ | with_reducible refine Below.setCell ?_ (by first | omega | (simp; done) | (simp; omega)) _ | with_reducible refine below_more _ _ ?_ (by first | omega | (simp; done) | (simp; omega)))))⟩
          case measure => simp [intOf]; omega
    · obtain rfl : k = nc := by omega
      have kn : ¬ (k : Int) < (k : Int) := by omega
      have hB := GWo.out.bel
      have hBs := hB.size
      go_wp2_with fail
      go_ret
      exact ⟨rfl, by (repeat (first | with_reducible assumption | with_reducible exact Below.refl _ _ | with_reducible refine Below.drewN ?_ _ | with_reducible refine Below.drew ?_ | with_reducible refine Below.alloc ?_ (by first | omega | (simp; done) | (simp; omega)) _ | with_reducible refine Below.setCell ?_ (by first | omega | (simp; done) | (simp; omega)) _ | with_reducible refine below_more _ _ ?_ (by first | omega | (simp; done) | (simp; omega))))⟩
end Go.Proofs.YthajaabgcbjfkaaDoor
