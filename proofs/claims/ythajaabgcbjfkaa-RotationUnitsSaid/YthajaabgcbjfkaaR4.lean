/- Contracts of the reference: which elements are Hurwitz quaternions; errors. -/
import Derived.Test.YthajaabgcbjfkaaR3
namespace Go.Proofs.Ythajaabgcbjfkaa
open Go.RowKit

theorem Qd.okb_bd {q : Qd} (h : q.okb = true) : N4 q.w ∧ N4 q.x ∧ N4 q.y ∧ N4 q.z ∧ 1 ≤ q.d ∧ N4 q.d := by
  simp only [Qd.okb, decide_eq_true_eq] at h
  unfold N4; omega
theorem Qd.low_bd {q : Qd} (h : q.okb = true) : (-1000000 ≤ q.low.w ∧ q.low.w ≤ 1000000) ∧ (-1000000 ≤ q.low.x ∧ q.low.x ≤ 1000000) ∧ (-1000000 ≤ q.low.y ∧ q.low.y ≤ 1000000) ∧ (-1000000 ≤ q.low.z ∧ q.low.z ≤ 1000000) := by
  have hd := (Qd.okb_bd h).2.2.2.2.1
  have hg := Qd.lg_pos hd
  simp only [Qd.okb, decide_eq_true_eq] at h
  obtain ⟨h0, h1, h2, h3, _⟩ := h
  exact ⟨Qt.tdiv_bd _ _ _ (by omega) hg h0, Qt.tdiv_bd _ _ _ (by omega) hg h1, Qt.tdiv_bd _ _ _ (by omega) hg h2, Qt.tdiv_bd _ _ _ (by omega) hg h3⟩

set_option maxRecDepth 10000 in
set_option maxHeartbeats 1000000 in
theorem of_bad (q : Qd) (h : q.okb = false) (w : World) :
    Calls Try.prog 17 #[.agg #[.int .i64 q.w, .int .i64 q.x, .int .i64 q.y, .int .i64 q.z, .int .i64 q.d]] w fun e w' => e = .returned (.tuple #[.agg #[.int .i64 q.ofv.w, .int .i64 q.ofv.x, .int .i64 q.ofv.y, .int .i64 q.ofv.z], .bool q.ofOk]) ∧ Below w.heap.size w w' := by
  have e1 : q.ofv = ⟨0, 0, 0, 0⟩ := by simp [Qd.ofv, h]
  have e2 : q.ofOk = false := by simp [Qd.ofOk, h]
  have e3 : q.err = 3 := by simp [Qd.err, h]
  have c := rquatErr_any q
  rw [e3] at c
  rw [e1, e2]
  have C := Lib.hid c
  clear e1 e2 e3 c h
  go_enter Try.func17, Try.ntmps17
  go_wp2_with (first | (go_at_call 68; with_reducible refine (C.out _).mono ?_; rintro e w1 ⟨rfl, hb1⟩; obtain ⟨g1, rfl⟩ := more_of_below hb1; clear hb1))
  refine bodyPost_ret (v := .tuple #[.agg #[.int .i64 0, .int .i64 0, .int .i64 0, .int .i64 0], .bool false]) (by simp [results, Try.results17, go_sem]) rfl ⟨rfl, ?_⟩
  (repeat (first | with_reducible assumption | with_reducible exact Below.refl _ _ | with_reducible refine Below.drewN ?_ _ | with_reducible refine Below.drew ?_ | with_reducible refine Below.alloc ?_ (by first | omega | (simp; done) | (simp; omega)) _ | with_reducible refine Below.setCell ?_ (by first | omega | (simp; done) | (simp; omega)) _ | with_reducible refine below_more _ _ ?_ (by first | omega | (simp; done) | (simp; omega))))

set_option maxRecDepth 10000 in
set_option maxHeartbeats 1000000 in
theorem of_one (q : Qd) (h : q.okb = true) (h1 : (q.low.d == 1) = true) (w : World) :
    Calls Try.prog 17 #[.agg #[.int .i64 q.w, .int .i64 q.x, .int .i64 q.y, .int .i64 q.z, .int .i64 q.d]] w fun e w' => e = .returned (.tuple #[.agg #[.int .i64 q.ofv.w, .int .i64 q.ofv.x, .int .i64 q.ofv.y, .int .i64 q.ofv.z], .bool q.ofOk]) ∧ Below w.heap.size w w' := by
  have e1 : q.ofv = ⟨2 * q.low.w, 2 * q.low.x, 2 * q.low.y, 2 * q.low.z⟩ := by simp only [Qd.ofv, h, h1, if_true]
  have e2 : q.ofOk = true := by simp only [Qd.ofOk, h, h1, Bool.true_or, Bool.and_true]
  have e3 : q.err = 0 := by simp [Qd.err, h]
  have c := rquatErr_any q
  rw [e3] at c
  obtain ⟨b0, b1, b2, b3, b4, b5⟩ := Qd.okb_bd h
  have c2 := lowest_in q b0 b1 b2 b3 b4 b5
  obtain ⟨⟨d0, d1⟩, ⟨d2, d3⟩, ⟨d4, d5⟩, ⟨d6, d7⟩⟩ := Qd.low_bd h
  rw [e1, e2]
  clear e1 e2 e3 h b0 b1 b2 b3 b4 b5
  generalize q.low = l at *
  have hd : l.d ≤ 2 := by simp at h1; omega
  have C := Lib.hid c
  have C2 := Lib.hid c2
  clear c c2
  go_enter Try.func17, Try.ntmps17
  go_wp2_with (first | (go_at_call 68; with_reducible refine (C.out _).mono ?_; rintro e w1 ⟨rfl, hb1⟩; obtain ⟨g1, rfl⟩ := more_of_below hb1; clear hb1) | (go_at_call 69; with_reducible refine (C2.out _).mono ?_; rintro e w2 ⟨rfl, hb2⟩; obtain ⟨g2, rfl⟩ := more_of_below hb2; clear hb2))
  refine wp_loop_rounds 5 ?_
  repeat any_goals (rw [rounds_succ]; go_wp2)
  go_region
  all_goals go_wp2
  all_goals (refine bodyPost_ret (v := .tuple #[.agg #[.int .i64 (2 * l.w), .int .i64 (2 * l.x), .int .i64 (2 * l.y), .int .i64 (2 * l.z)], .bool true]) (by simp [results, Try.results17, go_sem]) rfl ⟨rfl, ?_⟩)
  all_goals ((repeat (first | with_reducible assumption | with_reducible exact Below.refl _ _ | with_reducible refine Below.drewN ?_ _ | with_reducible refine Below.drew ?_ | with_reducible refine Below.alloc ?_ (by first | omega | (simp; done) | (simp; omega)) _ | with_reducible refine Below.setCell ?_ (by first | omega | (simp; done) | (simp; omega)) _ | with_reducible refine below_more _ _ ?_ (by first | omega | (simp; done) | (simp; omega)))))

set_option maxRecDepth 10000 in
set_option maxHeartbeats 1000000 in
theorem of_half (q : Qd) (h : q.okb = true) (h1 : (q.low.d == 1) = false) (h2 : q.low.oddb = true) (w : World) :
    Calls Try.prog 17 #[.agg #[.int .i64 q.w, .int .i64 q.x, .int .i64 q.y, .int .i64 q.z, .int .i64 q.d]] w fun e w' => e = .returned (.tuple #[.agg #[.int .i64 q.ofv.w, .int .i64 q.ofv.x, .int .i64 q.ofv.y, .int .i64 q.ofv.z], .bool q.ofOk]) ∧ Below w.heap.size w w' := by
  have e1 : q.ofv = ⟨q.low.w, q.low.x, q.low.y, q.low.z⟩ := by simp only [Qd.ofv, h, h1, h2, if_true, Bool.false_eq_true, if_false]
  have e2 : q.ofOk = decide (q.low.d ≤ 2) := by simp only [Qd.ofOk, h, h1, h2, Bool.true_and, Bool.false_or]
  have e3 : q.err = 0 := by simp [Qd.err, h]
  have c := rquatErr_any q
  rw [e3] at c
  obtain ⟨b0, b1, b2, b3, b4, b5⟩ := Qd.okb_bd h
  have c2 := lowest_in q b0 b1 b2 b3 b4 b5
  rw [e1, e2]
  clear e1 e2 e3 h b0 b1 b2 b3 b4 b5
  have hb : ∀ x : Int, (x.tmod 2 != 0) = true → (x.tmod 2 == 0) = false := fun x hx => by simpa using hx
  generalize q.low = l at *
  simp only [Qd.oddb, Bool.and_eq_true] at h2
  obtain ⟨o0, o1, o2, o3⟩ := h2
  have p0 := hb _ o0; have p1 := hb _ o1; have p2 := hb _ o2; have p3 := hb _ o3
  clear hb o0 o1 o2 o3
  have C := Lib.hid c
  have C2 := Lib.hid c2
  clear c c2
  go_enter Try.func17, Try.ntmps17
  go_wp2_with (first | (go_at_call 68; with_reducible refine (C.out _).mono ?_; rintro e w1 ⟨rfl, hb1⟩; obtain ⟨g1, rfl⟩ := more_of_below hb1; clear hb1) | (go_at_call 69; with_reducible refine (C2.out _).mono ?_; rintro e w2 ⟨rfl, hb2⟩; obtain ⟨g2, rfl⟩ := more_of_below hb2; clear hb2))
  refine wp_loop_rounds 5 ?_
  repeat any_goals (rw [rounds_succ]; go_wp2)
  go_region
  all_goals go_wp2
  all_goals (refine bodyPost_ret (v := .tuple #[.agg #[.int .i64 l.w, .int .i64 l.x, .int .i64 l.y, .int .i64 l.z], .bool (decide (l.d ≤ 2))]) (by simp [results, Try.results17, go_sem]) rfl ⟨rfl, ?_⟩)
  all_goals ((repeat (first | with_reducible assumption | with_reducible exact Below.refl _ _ | with_reducible refine Below.drewN ?_ _ | with_reducible refine Below.drew ?_ | with_reducible refine Below.alloc ?_ (by first | omega | (simp; done) | (simp; omega)) _ | with_reducible refine Below.setCell ?_ (by first | omega | (simp; done) | (simp; omega)) _ | with_reducible refine below_more _ _ ?_ (by first | omega | (simp; done) | (simp; omega)))))

set_option maxRecDepth 10000 in
set_option maxHeartbeats 1000000 in
theorem of_even (q : Qd) (h : q.okb = true) (h1 : (q.low.d == 1) = false) (h2 : q.low.oddb = false) (w : World) :
    Calls Try.prog 17 #[.agg #[.int .i64 q.w, .int .i64 q.x, .int .i64 q.y, .int .i64 q.z, .int .i64 q.d]] w fun e w' => e = .returned (.tuple #[.agg #[.int .i64 q.ofv.w, .int .i64 q.ofv.x, .int .i64 q.ofv.y, .int .i64 q.ofv.z], .bool q.ofOk]) ∧ Below w.heap.size w w' := by
  have e1 : q.ofv = ⟨0, 0, 0, 0⟩ := by simp only [Qd.ofv, h, h1, h2, if_true, Bool.false_eq_true, if_false]
  have e2 : q.ofOk = false := by simp only [Qd.ofOk, h, h1, h2, Bool.false_and, Bool.or_self, Bool.and_false]
  have e3 : q.err = 0 := by simp [Qd.err, h]
  have c := rquatErr_any q
  rw [e3] at c
  obtain ⟨b0, b1, b2, b3, b4, b5⟩ := Qd.okb_bd h
  have c2 := lowest_in q b0 b1 b2 b3 b4 b5
  rw [e1, e2]
  clear e1 e2 e3 h b0 b1 b2 b3 b4 b5
  have hb : ∀ x : Int, (x.tmod 2 != 0) = true → (x.tmod 2 == 0) = false := fun x hx => by simpa using hx
  have hf : ∀ x : Int, (x.tmod 2 != 0) = false → (x.tmod 2 == 0) = true := fun x hx => by simpa using hx
  generalize q.low = l at *
  unfold Qd.oddb at h2
  have C := Lib.hid c
  have C2 := Lib.hid c2
  clear c c2
  cases o0 : (l.w.tmod 2 != 0)
  · have p0 := hf _ o0
    clear hb hf o0 h2
    go_enter Try.func17, Try.ntmps17
    go_wp2_with (first | (go_at_call 68; with_reducible refine (C.out _).mono ?_; rintro e w1 ⟨rfl, hb1⟩; obtain ⟨g1, rfl⟩ := more_of_below hb1; clear hb1) | (go_at_call 69; with_reducible refine (C2.out _).mono ?_; rintro e w2 ⟨rfl, hb2⟩; obtain ⟨g2, rfl⟩ := more_of_below hb2; clear hb2))
    refine wp_loop_rounds 5 ?_
    repeat any_goals (rw [rounds_succ]; go_wp2)
    refine bodyPost_ret (v := .tuple #[.agg #[.int .i64 0, .int .i64 0, .int .i64 0, .int .i64 0], .bool false]) (by simp [results, Try.results17, go_sem]) rfl ⟨rfl, ?_⟩
    (repeat (first | with_reducible assumption | with_reducible exact Below.refl _ _ | with_reducible refine Below.drewN ?_ _ | with_reducible refine Below.drew ?_ | with_reducible refine Below.alloc ?_ (by first | omega | (simp; done) | (simp; omega)) _ | with_reducible refine Below.setCell ?_ (by first | omega | (simp; done) | (simp; omega)) _ | with_reducible refine below_more _ _ ?_ (by first | omega | (simp; done) | (simp; omega))))
  have p0 := hb _ o0
  rw [o0, Bool.true_and] at h2
  cases o1 : (l.x.tmod 2 != 0)
  · have p1 := hf _ o1
    clear hb hf o0 o1 h2
    go_enter Try.func17, Try.ntmps17
    go_wp2_with (first | (go_at_call 68; with_reducible refine (C.out _).mono ?_; rintro e w1 ⟨rfl, hb1⟩; obtain ⟨g1, rfl⟩ := more_of_below hb1; clear hb1) | (go_at_call 69; with_reducible refine (C2.out _).mono ?_; rintro e w2 ⟨rfl, hb2⟩; obtain ⟨g2, rfl⟩ := more_of_below hb2; clear hb2))
    refine wp_loop_rounds 5 ?_
    repeat any_goals (rw [rounds_succ]; go_wp2)
    refine bodyPost_ret (v := .tuple #[.agg #[.int .i64 0, .int .i64 0, .int .i64 0, .int .i64 0], .bool false]) (by simp [results, Try.results17, go_sem]) rfl ⟨rfl, ?_⟩
    (repeat (first | with_reducible assumption | with_reducible exact Below.refl _ _ | with_reducible refine Below.drewN ?_ _ | with_reducible refine Below.drew ?_ | with_reducible refine Below.alloc ?_ (by first | omega | (simp; done) | (simp; omega)) _ | with_reducible refine Below.setCell ?_ (by first | omega | (simp; done) | (simp; omega)) _ | with_reducible refine below_more _ _ ?_ (by first | omega | (simp; done) | (simp; omega))))
  have p1 := hb _ o1
  rw [o1, Bool.true_and] at h2
  cases o2 : (l.y.tmod 2 != 0)
  · have p2 := hf _ o2
    clear hb hf o0 o1 o2 h2
    go_enter Try.func17, Try.ntmps17
    go_wp2_with (first | (go_at_call 68; with_reducible refine (C.out _).mono ?_; rintro e w1 ⟨rfl, hb1⟩; obtain ⟨g1, rfl⟩ := more_of_below hb1; clear hb1) | (go_at_call 69; with_reducible refine (C2.out _).mono ?_; rintro e w2 ⟨rfl, hb2⟩; obtain ⟨g2, rfl⟩ := more_of_below hb2; clear hb2))
    refine wp_loop_rounds 5 ?_
    repeat any_goals (rw [rounds_succ]; go_wp2)
    refine bodyPost_ret (v := .tuple #[.agg #[.int .i64 0, .int .i64 0, .int .i64 0, .int .i64 0], .bool false]) (by simp [results, Try.results17, go_sem]) rfl ⟨rfl, ?_⟩
    (repeat (first | with_reducible assumption | with_reducible exact Below.refl _ _ | with_reducible refine Below.drewN ?_ _ | with_reducible refine Below.drew ?_ | with_reducible refine Below.alloc ?_ (by first | omega | (simp; done) | (simp; omega)) _ | with_reducible refine Below.setCell ?_ (by first | omega | (simp; done) | (simp; omega)) _ | with_reducible refine below_more _ _ ?_ (by first | omega | (simp; done) | (simp; omega))))
  have p2 := hb _ o2
  rw [o2, Bool.true_and] at h2
  have p3 := hf _ h2
  clear hb hf o0 o1 o2 h2
  go_enter Try.func17, Try.ntmps17
  go_wp2_with (first | (go_at_call 68; with_reducible refine (C.out _).mono ?_; rintro e w1 ⟨rfl, hb1⟩; obtain ⟨g1, rfl⟩ := more_of_below hb1; clear hb1) | (go_at_call 69; with_reducible refine (C2.out _).mono ?_; rintro e w2 ⟨rfl, hb2⟩; obtain ⟨g2, rfl⟩ := more_of_below hb2; clear hb2))
  refine wp_loop_rounds 5 ?_
  repeat any_goals (rw [rounds_succ]; go_wp2)
  refine bodyPost_ret (v := .tuple #[.agg #[.int .i64 0, .int .i64 0, .int .i64 0, .int .i64 0], .bool false]) (by simp [results, Try.results17, go_sem]) rfl ⟨rfl, ?_⟩
  (repeat (first | with_reducible assumption | with_reducible exact Below.refl _ _ | with_reducible refine Below.drewN ?_ _ | with_reducible refine Below.drew ?_ | with_reducible refine Below.alloc ?_ (by first | omega | (simp; done) | (simp; omega)) _ | with_reducible refine Below.setCell ?_ (by first | omega | (simp; done) | (simp; omega)) _ | with_reducible refine below_more _ _ ?_ (by first | omega | (simp; done) | (simp; omega))))

theorem rof_any (q : Qd) (w : World) :
    Calls Try.prog 17 #[.agg #[.int .i64 q.w, .int .i64 q.x, .int .i64 q.y, .int .i64 q.z, .int .i64 q.d]] w fun e w' => e = .returned (.tuple #[.agg #[.int .i64 q.ofv.w, .int .i64 q.ofv.x, .int .i64 q.ofv.y, .int .i64 q.ofv.z], .bool q.ofOk]) ∧ Below w.heap.size w w' := by
  cases h : q.okb
  · exact of_bad q h w
  cases h1 : (q.low.d == 1)
  · cases h2 : q.low.oddb
    · exact of_even q h h1 h2 w
    · exact of_half q h h1 h2 w
  · exact of_one q h h1 w
/-- What is a Hurwitz quaternion, is read. -/
theorem rof_ok (q : Qd) (h : q.okb = true) (hr : q.rdok = true) (w : World) :
    Calls Try.prog 17 #[.agg #[.int .i64 q.w, .int .i64 q.x, .int .i64 q.y, .int .i64 q.z, .int .i64 q.d]] w fun e w' => e = .returned (.tuple #[.agg #[.int .i64 q.rdv.w, .int .i64 q.rdv.x, .int .i64 q.rdv.y, .int .i64 q.rdv.z], .bool true]) ∧ Below w.heap.size w w' := by
  have := rof_any q w
  obtain ⟨h1, h2⟩ := Qd.of_spec h
  rwa [h1, hr, h2 hr] at this
theorem rof_no (q : Qd) (h : q.okb = true) (hr : q.rdok = false) (w : World) :
    Calls Try.prog 17 #[.agg #[.int .i64 q.w, .int .i64 q.x, .int .i64 q.y, .int .i64 q.z, .int .i64 q.d]] w fun e w' => e = .returned (.tuple #[.agg #[.int .i64 q.ofv.w, .int .i64 q.ofv.x, .int .i64 q.ofv.y, .int .i64 q.ofv.z], .bool false]) ∧ Below w.heap.size w w' := by
  have := rof_any q w
  obtain ⟨h1, _⟩ := Qd.of_spec h
  rwa [h1, hr] at this

set_option maxRecDepth 10000 in
set_option maxHeartbeats 1000000 in
theorem rerr_any (q : Qd) (w : World) :
    Calls Try.prog 16 #[.agg #[.int .i64 q.w, .int .i64 q.x, .int .i64 q.y, .int .i64 q.z, .int .i64 q.d]] w fun e w' => e = .returned (.int .i64 q.oerr) ∧ Below w.heap.size w w' := by
  have c := rquatErr_any q
  rcases q.oerr_cases with h | h | h | h
  · rw [show q.err = 3 by simp [Qd.err, h.1]] at c
    rw [h.2]
    have C := Lib.hid c
    clear c h
    go_enter Try.func16, Try.ntmps16
    go_wp2_with (first | (go_at_call 68; with_reducible refine (C.out _).mono ?_; rintro e w1 ⟨rfl, hb1⟩; obtain ⟨g1, rfl⟩ := more_of_below hb1; clear hb1))
    go_ret
    exact ⟨rfl, by (repeat (first | with_reducible assumption | with_reducible exact Below.refl _ _ | with_reducible refine Below.drewN ?_ _ | with_reducible refine Below.drew ?_ | with_reducible refine Below.alloc ?_ (by first | omega | (simp; done) | (simp; omega)) _ | with_reducible refine Below.setCell ?_ (by first | omega | (simp; done) | (simp; omega)) _ | with_reducible refine below_more _ _ ?_ (by first | omega | (simp; done) | (simp; omega))))⟩
  · rw [show q.err = 0 by simp [Qd.err, h.1]] at c
    rw [h.2.2]
    have C := Lib.hid c
    have C2 := Lib.hid (rof_no q h.1 h.2.1)
    clear c h
    go_enter Try.func16, Try.ntmps16
    go_wp2_with (first | (go_at_call 68; with_reducible refine (C.out _).mono ?_; rintro e w1 ⟨rfl, hb1⟩; obtain ⟨g1, rfl⟩ := more_of_below hb1; clear hb1) | (go_at_call 17; with_reducible refine (C2.out _).mono ?_; rintro e w2 ⟨rfl, hb2⟩; obtain ⟨g2, rfl⟩ := more_of_below hb2; clear hb2))
    go_ret
    exact ⟨rfl, by (repeat (first | with_reducible assumption | with_reducible exact Below.refl _ _ | with_reducible refine Below.drewN ?_ _ | with_reducible refine Below.drew ?_ | with_reducible refine Below.alloc ?_ (by first | omega | (simp; done) | (simp; omega)) _ | with_reducible refine Below.setCell ?_ (by first | omega | (simp; done) | (simp; omega)) _ | with_reducible refine below_more _ _ ?_ (by first | omega | (simp; done) | (simp; omega))))⟩
  · rw [show q.err = 0 by simp [Qd.err, h.1]] at c
    rw [h.2.2.2]
    have C := Lib.hid c
    have C2 := Lib.hid (rof_ok q h.1 h.2.1)
    have hn := Qd.rdv_nrm h.1
    have hh := h.2.2.1
    clear c h
    go_enter Try.func16, Try.ntmps16
    go_wp2_with (first | (go_at_call 68; with_reducible refine (C.out _).mono ?_; rintro e w1 ⟨rfl, hb1⟩; obtain ⟨g1, rfl⟩ := more_of_below hb1; clear hb1) | (go_at_call 17; with_reducible refine (C2.out _).mono ?_; rintro e w2 ⟨rfl, hb2⟩; obtain ⟨g2, rfl⟩ := more_of_below hb2; clear hb2) | (go_at_call 21; with_reducible refine (rnorm_in _ (by omega) _).mono ?_; rintro e w3 ⟨rfl, hb3⟩; obtain ⟨g3, rfl⟩ := more_of_below hb3; clear hb3))
    go_ret
    exact ⟨rfl, by (repeat (first | with_reducible assumption | with_reducible exact Below.refl _ _ | with_reducible refine Below.drewN ?_ _ | with_reducible refine Below.drew ?_ | with_reducible refine Below.alloc ?_ (by first | omega | (simp; done) | (simp; omega)) _ | with_reducible refine Below.setCell ?_ (by first | omega | (simp; done) | (simp; omega)) _ | with_reducible refine below_more _ _ ?_ (by first | omega | (simp; done) | (simp; omega))))⟩
  · rw [show q.err = 0 by simp [Qd.err, h.1]] at c
    rw [h.2.2.2]
    have C := Lib.hid c
    have C2 := Lib.hid (rof_ok q h.1 h.2.1)
    have hn := Qd.rdv_nrm h.1
    have hh := h.2.2.1
    clear c h
    go_enter Try.func16, Try.ntmps16
    go_wp2_with (first | (go_at_call 68; with_reducible refine (C.out _).mono ?_; rintro e w1 ⟨rfl, hb1⟩; obtain ⟨g1, rfl⟩ := more_of_below hb1; clear hb1) | (go_at_call 17; with_reducible refine (C2.out _).mono ?_; rintro e w2 ⟨rfl, hb2⟩; obtain ⟨g2, rfl⟩ := more_of_below hb2; clear hb2) | (go_at_call 21; with_reducible refine (rnorm_in _ (by omega) _).mono ?_; rintro e w3 ⟨rfl, hb3⟩; obtain ⟨g3, rfl⟩ := more_of_below hb3; clear hb3))
    go_ret
    exact ⟨rfl, by (repeat (first | with_reducible assumption | with_reducible exact Below.refl _ _ | with_reducible refine Below.drewN ?_ _ | with_reducible refine Below.drew ?_ | with_reducible refine Below.alloc ?_ (by first | omega | (simp; done) | (simp; omega)) _ | with_reducible refine Below.setCell ?_ (by first | omega | (simp; done) | (simp; omega)) _ | with_reducible refine below_more _ _ ?_ (by first | omega | (simp; done) | (simp; omega))))⟩

set_option maxHeartbeats 400000 in
theorem rquat_hz (a : Qt) (h : a.InR) (hh : Qt.Hz a) (w : World) :
    Calls Try.prog 20 #[.agg #[.int .i64 a.w, .int .i64 a.x, .int .i64 a.y, .int .i64 a.z]] w fun e w' => e = .returned (.agg #[.int .i64 a.toQ.w, .int .i64 a.toQ.x, .int .i64 a.toQ.y, .int .i64 a.toQ.z, .int .i64 a.toQ.d]) ∧ Below w.heap.size w w' := by
  have c := lowest_in ⟨a.w, a.x, a.y, a.z, 2⟩ h.1 h.2.1 h.2.2.1 h.2.2.2 (by simp only; omega) (by unfold N4; simp only; omega)
  rw [Qt.toQ_low hh] at c
  have C := Lib.hid c
  clear c h hh
  go_enter Try.func20, Try.ntmps20
  go_wp2_with (first | (go_at_call 69; with_reducible refine (C.out _).mono ?_; rintro e w1 ⟨rfl, hb1⟩; obtain ⟨g1, rfl⟩ := more_of_below hb1; clear hb1))
  refine bodyPost_ret (v := .agg #[.int .i64 a.toQ.w, .int .i64 a.toQ.x, .int .i64 a.toQ.y, .int .i64 a.toQ.z, .int .i64 a.toQ.d]) (by simp [results, Try.results20, go_sem]) rfl ⟨rfl, ?_⟩
  (repeat (first | with_reducible assumption | with_reducible exact Below.refl _ _ | with_reducible refine Below.drewN ?_ _ | with_reducible refine Below.drew ?_ | with_reducible refine Below.alloc ?_ (by first | omega | (simp; done) | (simp; omega)) _ | with_reducible refine Below.setCell ?_ (by first | omega | (simp; done) | (simp; omega)) _ | with_reducible refine below_more _ _ ?_ (by first | omega | (simp; done) | (simp; omega))))
end Go.Proofs.Ythajaabgcbjfkaa
