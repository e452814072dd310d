/- Contracts of the reference: which elements are Hurwitz quaternions; errors. Contract of the reference: Divide. Plain and contracts: what division's parts are within. -/
import Derived.Test.YthajaabgcbjfkaaR1
import Derived.Test.YthajaabgcbjfkaaP3
import Derived.Test.YthajaabgcbjfkaaO1
namespace Go.Proofs.Ythajaabgcbjfkaa
open Go.RowKit

theorem Qd.okb_bd {q : Qd} (h : q.okb = true) : N4 q.w ∧ N4 q.x ∧ N4 q.y ∧ N4 q.z ∧ 1 ≤ q.d ∧ N4 q.d := by
  simp only [Qd.okb, decide_eq_true_eq] at h
  unfold N4; omega
theorem Qd.low_bd {q : Qd} (h : q.okb = true) : (-1000000 ≤ q.low.w ∧ q.low.w ≤ 1000000) ∧ (-1000000 ≤ q.low.x ∧ q.low.x ≤ 1000000) ∧ (-1000000 ≤ q.low.y ∧ q.low.y ≤ 1000000) ∧ (-1000000 ≤ q.low.z ∧ q.low.z ≤ 1000000) := by
  have hd := (Qd.okb_bd h).2.2.2.2.1
  have hg := Qd.lg_pos hd
  simp only [Qd.okb, decide_eq_true_eq] at h
  obtain ⟨h0, h1, h2, h3, _⟩ := h
  exact ⟨Qt.tdiv_bd _ _ _ (by omega) hg h0, Qt.tdiv_bd _ _ _ (by omega) hg h1, Qt.tdiv_bd _ _ _ (by omega) hg h2, Qt.tdiv_bd _ _ _ (by omega) hg h3⟩

set_option maxRecDepth 10000 in
set_option maxHeartbeats 1000000 in
theorem of_bad (q : Qd) (h : q.okb = false) (w : World) :
    Calls Try.prog 17 #[.agg #[.int .i64 q.w, .int .i64 q.x, .int .i64 q.y, .int .i64 q.z, .int .i64 q.d]] w fun e w' => e = .returned (.tuple #[.agg #[.int .i64 q.ofv.w, .int .i64 q.ofv.x, .int .i64 q.ofv.y, .int .i64 q.ofv.z], .bool q.ofOk]) ∧ Below w.heap.size w w' := by
  have e1 : q.ofv = ⟨0, 0, 0, 0⟩ := by simp [Qd.ofv, h]
  have e2 : q.ofOk = false := by simp [Qd.ofOk, h]
  have e3 : q.err = 3 := by simp [Qd.err, h]
  have c := rquatErr_any q
  rw [e3] at c
  rw [e1, e2]
  have C := Lib.hid c
  clear e1 e2 e3 c h
  go_enter Try.func17, Try.ntmps17
  go_wp2_with (first | (go_at_call 68; with_reducible refine (C.out _).mono ?_; rintro e w1 ⟨rfl, hb1⟩; obtain ⟨g1, rfl⟩ := more_of_below hb1; clear hb1))
  refine bodyPost_ret (v := .tuple #[.agg #[.int .i64 0, .int .i64 0, .int .i64 0, .int .i64 0], .bool false]) (by simp [results, Try.results17, go_sem]) rfl ⟨rfl, ?_⟩
  (repeat (first | with_reducible assumption | with_reducible exact Below.refl _ _ | with_reducible refine Below.drewN ?_ _ | with_reducible refine Below.drew ?_ | with_reducible refine Below.alloc ?_ (by first | omega | (simp; done) | (simp; omega)) _ | with_reducible refine Below.setCell ?_ (by first | omega | (simp; done) | (simp; omega)) _ | with_reducible refine below_more _ _ ?_ (by first | omega | (simp; done) | (simp; omega))))

set_option maxRecDepth 10000 in
set_option maxHeartbeats 1000000 in
theorem of_one (q : Qd) (h : q.okb = true) (h1 : (q.low.d == 1) = true) (w : World) :
    Calls Try.prog 17 #[.agg #[.int .i64 q.w, .int .i64 q.x, .int .i64 q.y, .int .i64 q.z, .int .i64 q.d]] w fun e w' => e = .returned (.tuple #[.agg #[.int .i64 q.ofv.w, .int .i64 q.ofv.x, .int .i64 q.ofv.y, .int .i64 q.ofv.z], .bool q.ofOk]) ∧ Below w.heap.size w w' := by
  have e1 : q.ofv = ⟨2 * q.low.w, 2 * q.low.x, 2 * q.low.y, 2 * q.low.z⟩ := by simp only [Qd.ofv, h, h1, if_true]
  have e2 : q.ofOk = true := by simp only [Qd.ofOk, h, h1, Bool.true_or, Bool.and_true]
  have e3 : q.err = 0 := by simp [Qd.err, h]
  have c := rquatErr_any q
  rw [e3] at c
  obtain ⟨b0, b1, b2, b3, b4, b5⟩ := Qd.okb_bd h
  have c2 := lowest_in q b0 b1 b2 b3 b4 b5
  obtain ⟨⟨d0, d1⟩, ⟨d2, d3⟩, ⟨d4, d5⟩, ⟨d6, d7⟩⟩ := Qd.low_bd h
  rw [e1, e2]
  clear e1 e2 e3 h b0 b1 b2 b3 b4 b5
  generalize q.low = l at *
  have hd : l.d ≤ 2 := by simp at h1; omega
  have C := Lib.hid c
  have C2 := Lib.hid c2
  clear c c2
  go_enter Try.func17, Try.ntmps17
  go_wp2_with (first | (go_at_call 68; with_reducible refine (C.out _).mono ?_; rintro e w1 ⟨rfl, hb1⟩; obtain ⟨g1, rfl⟩ := more_of_below hb1; clear hb1) | (go_at_call 69; with_reducible refine (C2.out _).mono ?_; rintro e w2 ⟨rfl, hb2⟩; obtain ⟨g2, rfl⟩ := more_of_below hb2; clear hb2))
  refine wp_loop_rounds 5 ?_
  repeat any_goals (rw [rounds_succ]; go_wp2)
  go_region
  all_goals go_wp2
  all_goals (refine bodyPost_ret (v := .tuple #[.agg #[.int .i64 (2 * l.w), .int .i64 (2 * l.x), .int .i64 (2 * l.y), .int .i64 (2 * l.z)], .bool true]) (by simp [results, Try.results17, go_sem]) rfl ⟨rfl, ?_⟩)
  all_goals ((repeat (first | with_reducible assumption | with_reducible exact Below.refl _ _ | with_reducible refine Below.drewN ?_ _ | with_reducible refine Below.drew ?_ | with_reducible refine Below.alloc ?_ (by first | omega | (simp; done) | (simp; omega)) _ | with_reducible refine Below.setCell ?_ (by first | omega | (simp; done) | (simp; omega)) _ | with_reducible refine below_more _ _ ?_ (by first | omega | (simp; done) | (simp; omega)))))

set_option maxRecDepth 10000 in
set_option maxHeartbeats 1000000 in
theorem of_half (q : Qd) (h : q.okb = true) (h1 : (q.low.d == 1) = false) (h2 : q.low.oddb = true) (w : World) :
    Calls Try.prog 17 #[.agg #[.int .i64 q.w, .int .i64 q.x, .int .i64 q.y, .int .i64 q.z, .int .i64 q.d]] w fun e w' => e = .returned (.tuple #[.agg #[.int .i64 q.ofv.w, .int .i64 q.ofv.x, .int .i64 q.ofv.y, .int .i64 q.ofv.z], .bool q.ofOk]) ∧ Below w.heap.size w w' := by
  have e1 : q.ofv = ⟨q.low.w, q.low.x, q.low.y, q.low.z⟩ := by simp only [Qd.ofv, h, h1, h2, if_true, Bool.false_eq_true, if_false]
  have e2 : q.ofOk = decide (q.low.d ≤ 2) := by simp only [Qd.ofOk, h, h1, h2, Bool.true_and, Bool.false_or]
  have e3 : q.err = 0 := by simp [Qd.err, h]
  have c := rquatErr_any q
  rw [e3] at c
  obtain ⟨b0, b1, b2, b3, b4, b5⟩ := Qd.okb_bd h
  have c2 := lowest_in q b0 b1 b2 b3 b4 b5
  rw [e1, e2]
  clear e1 e2 e3 h b0 b1 b2 b3 b4 b5
  have hb : ∀ x : Int, (x.tmod 2 != 0) = true → (x.tmod 2 == 0) = false := fun x hx => by simpa using hx
  generalize q.low = l at *
  simp only [Qd.oddb, Bool.and_eq_true] at h2
  obtain ⟨o0, o1, o2, o3⟩ := h2
  have p0 := hb _ o0; have p1 := hb _ o1; have p2 := hb _ o2; have p3 := hb _ o3
  clear hb o0 o1 o2 o3
  have C := Lib.hid c
  have C2 := Lib.hid c2
  clear c c2
  go_enter Try.func17, Try.ntmps17
  go_wp2_with (first | (go_at_call 68; with_reducible refine (C.out _).mono ?_; rintro e w1 ⟨rfl, hb1⟩; obtain ⟨g1, rfl⟩ := more_of_below hb1; clear hb1) | (go_at_call 69; with_reducible refine (C2.out _).mono ?_; rintro e w2 ⟨rfl, hb2⟩; obtain ⟨g2, rfl⟩ := more_of_below hb2; clear hb2))
  refine wp_loop_rounds 5 ?_
  repeat any_goals (rw [rounds_succ]; go_wp2)
  go_region
  all_goals go_wp2
  all_goals (refine bodyPost_ret (v := .tuple #[.agg #[.int .i64 l.w, .int .i64 l.x, .int .i64 l.y, .int .i64 l.z], .bool (decide (l.d ≤ 2))]) (by simp [results, Try.results17, go_sem]) rfl ⟨rfl, ?_⟩)
  all_goals ((repeat (first | with_reducible assumption | with_reducible exact Below.refl _ _ | with_reducible refine Below.drewN ?_ _ | with_reducible refine Below.drew ?_ | with_reducible refine Below.alloc ?_ (by first | omega | (simp; done) | (simp; omega)) _ | with_reducible refine Below.setCell ?_ (by first | omega | (simp; done) | (simp; omega)) _ | with_reducible refine below_more _ _ ?_ (by first | omega | (simp; done) | (simp; omega)))))

set_option maxRecDepth 10000 in
set_option maxHeartbeats 1000000 in
theorem of_even (q : Qd) (h : q.okb = true) (h1 : (q.low.d == 1) = false) (h2 : q.low.oddb = false) (w : World) :
    Calls Try.prog 17 #[.agg #[.int .i64 q.w, .int .i64 q.x, .int .i64 q.y, .int .i64 q.z, .int .i64 q.d]] w fun e w' => e = .returned (.tuple #[.agg #[.int .i64 q.ofv.w, .int .i64 q.ofv.x, .int .i64 q.ofv.y, .int .i64 q.ofv.z], .bool q.ofOk]) ∧ Below w.heap.size w w' := by
  have e1 : q.ofv = ⟨0, 0, 0, 0⟩ := by simp only [Qd.ofv, h, h1, h2, if_true, Bool.false_eq_true, if_false]
  have e2 : q.ofOk = false := by simp only [Qd.ofOk, h, h1, h2, Bool.false_and, Bool.or_self, Bool.and_false]
  have e3 : q.err = 0 := by simp [Qd.err, h]
  have c := rquatErr_any q
  rw [e3] at c
  obtain ⟨b0, b1, b2, b3, b4, b5⟩ := Qd.okb_bd h
  have c2 := lowest_in q b0 b1 b2 b3 b4 b5
  rw [e1, e2]
  clear e1 e2 e3 h b0 b1 b2 b3 b4 b5
  have hb : ∀ x : Int, (x.tmod 2 != 0) = true → (x.tmod 2 == 0) = false := fun x hx => by simpa using hx
  have hf : ∀ x : Int, (x.tmod 2 != 0) = false → (x.tmod 2 == 0) = true := fun x hx => by simpa using hx
  generalize q.low = l at *
  unfold Qd.oddb at h2
  have C := Lib.hid c
  have C2 := Lib.hid c2
  clear c c2
  cases o0 : (l.w.tmod 2 != 0)
  · have p0 := hf _ o0
    clear hb hf o0 h2
    go_enter Try.func17, Try.ntmps17
    go_wp2_with (first | (go_at_call 68; with_reducible refine (C.out _).mono ?_; rintro e w1 ⟨rfl, hb1⟩; obtain ⟨g1, rfl⟩ := more_of_below hb1; clear hb1) | (go_at_call 69; with_reducible refine (C2.out _).mono ?_; rintro e w2 ⟨rfl, hb2⟩; obtain ⟨g2, rfl⟩ := more_of_below hb2; clear hb2))
    refine wp_loop_rounds 5 ?_
    repeat any_goals (rw [rounds_succ]; go_wp2)
    refine bodyPost_ret (v := .tuple #[.agg #[.int .i64 0, .int .i64 0, .int .i64 0, .int .i64 0], .bool false]) (by simp [results, Try.results17, go_sem]) rfl ⟨rfl, ?_⟩
    (repeat (first | with_reducible assumption | with_reducible exact Below.refl _ _ | with_reducible refine Below.drewN ?_ _ | with_reducible refine Below.drew ?_ | with_reducible refine Below.alloc ?_ (by first | omega | (simp; done) | (simp; omega)) _ | with_reducible refine Below.setCell ?_ (by first | omega | (simp; done) | (simp; omega)) _ | with_reducible refine below_more _ _ ?_ (by first | omega | (simp; done) | (simp; omega))))
  have p0 := hb _ o0
  rw [o0, Bool.true_and] at h2
  cases o1 : (l.x.tmod 2 != 0)
  · have p1 := hf _ o1
    clear hb hf o0 o1 h2
    go_enter Try.func17, Try.ntmps17
    go_wp2_with (first | (go_at_call 68; with_reducible refine (C.out _).mono ?_; rintro e w1 ⟨rfl, hb1⟩; obtain ⟨g1, rfl⟩ := more_of_below hb1; clear hb1) | (go_at_call 69; with_reducible refine (C2.out _).mono ?_; rintro e w2 ⟨rfl, hb2⟩; obtain ⟨g2, rfl⟩ := more_of_below hb2; clear hb2))
    refine wp_loop_rounds 5 ?_
    repeat any_goals (rw [rounds_succ]; go_wp2)
    refine bodyPost_ret (v := .tuple #[.agg #[.int .i64 0, .int .i64 0, .int .i64 0, .int .i64 0], .bool false]) (by simp [results, Try.results17, go_sem]) rfl ⟨rfl, ?_⟩
    (repeat (first | with_reducible assumption | with_reducible exact Below.refl _ _ | with_reducible refine Below.drewN ?_ _ | with_reducible refine Below.drew ?_ | with_reducible refine Below.alloc ?_ (by first | omega | (simp; done) | (simp; omega)) _ | with_reducible refine Below.setCell ?_ (by first | omega | (simp; done) | (simp; omega)) _ | with_reducible refine below_more _ _ ?_ (by first | omega | (simp; done) | (simp; omega))))
  have p1 := hb _ o1
  rw [o1, Bool.true_and] at h2
  cases o2 : (l.y.tmod 2 != 0)
  · have p2 := hf _ o2
    clear hb hf o0 o1 o2 h2
    go_enter Try.func17, Try.ntmps17
    go_wp2_with (first | (go_at_call 68; with_reducible refine (C.out _).mono ?_; rintro e w1 ⟨rfl, hb1⟩; obtain ⟨g1, rfl⟩ := more_of_below hb1; clear hb1) | (go_at_call 69; with_reducible refine (C2.out _).mono ?_; rintro e w2 ⟨rfl, hb2⟩; obtain ⟨g2, rfl⟩ := more_of_below hb2; clear hb2))
    refine wp_loop_rounds 5 ?_
    repeat any_goals (rw [rounds_succ]; go_wp2)
    refine bodyPost_ret (v := .tuple #[.agg #[.int .i64 0, .int .i64 0, .int .i64 0, .int .i64 0], .bool false]) (by simp [results, Try.results17, go_sem]) rfl ⟨rfl, ?_⟩
    (repeat (first | with_reducible assumption | with_reducible exact Below.refl _ _ | with_reducible refine Below.drewN ?_ _ | with_reducible refine Below.drew ?_ | with_reducible refine Below.alloc ?_ (by first | omega | (simp; done) | (simp; omega)) _ | with_reducible refine Below.setCell ?_ (by first | omega | (simp; done) | (simp; omega)) _ | with_reducible refine below_more _ _ ?_ (by first | omega | (simp; done) | (simp; omega))))
  have p2 := hb _ o2
  rw [o2, Bool.true_and] at h2
  have p3 := hf _ h2
  clear hb hf o0 o1 o2 h2
  go_enter Try.func17, Try.ntmps17
  go_wp2_with (first | (go_at_call 68; with_reducible refine (C.out _).mono ?_; rintro e w1 ⟨rfl, hb1⟩; obtain ⟨g1, rfl⟩ := more_of_below hb1; clear hb1) | (go_at_call 69; with_reducible refine (C2.out _).mono ?_; rintro e w2 ⟨rfl, hb2⟩; obtain ⟨g2, rfl⟩ := more_of_below hb2; clear hb2))
  refine wp_loop_rounds 5 ?_
  repeat any_goals (rw [rounds_succ]; go_wp2)
  refine bodyPost_ret (v := .tuple #[.agg #[.int .i64 0, .int .i64 0, .int .i64 0, .int .i64 0], .bool false]) (by simp [results, Try.results17, go_sem]) rfl ⟨rfl, ?_⟩
  (repeat (first | with_reducible assumption | with_reducible exact Below.refl _ _ | with_reducible refine Below.drewN ?_ _ | with_reducible refine Below.drew ?_ | with_reducible refine Below.alloc ?_ (by first | omega | (simp; done) | (simp; omega)) _ | with_reducible refine Below.setCell ?_ (by first | omega | (simp; done) | (simp; omega)) _ | with_reducible refine below_more _ _ ?_ (by first | omega | (simp; done) | (simp; omega))))

theorem rof_any (q : Qd) (w : World) :
    Calls Try.prog 17 #[.agg #[.int .i64 q.w, .int .i64 q.x, .int .i64 q.y, .int .i64 q.z, .int .i64 q.d]] w fun e w' => e = .returned (.tuple #[.agg #[.int .i64 q.ofv.w, .int .i64 q.ofv.x, .int .i64 q.ofv.y, .int .i64 q.ofv.z], .bool q.ofOk]) ∧ Below w.heap.size w w' := by
  cases h : q.okb
  · exact of_bad q h w
  cases h1 : (q.low.d == 1)
  · cases h2 : q.low.oddb
    · exact of_even q h h1 h2 w
    · exact of_half q h h1 h2 w
  · exact of_one q h h1 w
/-- What is a Hurwitz quaternion, is read. -/
theorem rof_ok (q : Qd) (h : q.okb = true) (hr : q.rdok = true) (w : World) :
    Calls Try.prog 17 #[.agg #[.int .i64 q.w, .int .i64 q.x, .int .i64 q.y, .int .i64 q.z, .int .i64 q.d]] w fun e w' => e = .returned (.tuple #[.agg #[.int .i64 q.rdv.w, .int .i64 q.rdv.x, .int .i64 q.rdv.y, .int .i64 q.rdv.z], .bool true]) ∧ Below w.heap.size w w' := by
  have := rof_any q w
  obtain ⟨h1, h2⟩ := Qd.of_spec h
  rwa [h1, hr, h2 hr] at this
theorem rof_no (q : Qd) (h : q.okb = true) (hr : q.rdok = false) (w : World) :
    Calls Try.prog 17 #[.agg #[.int .i64 q.w, .int .i64 q.x, .int .i64 q.y, .int .i64 q.z, .int .i64 q.d]] w fun e w' => e = .returned (.tuple #[.agg #[.int .i64 q.ofv.w, .int .i64 q.ofv.x, .int .i64 q.ofv.y, .int .i64 q.ofv.z], .bool false]) ∧ Below w.heap.size w w' := by
  have := rof_any q w
  obtain ⟨h1, _⟩ := Qd.of_spec h
  rwa [h1, hr] at this

set_option maxRecDepth 10000 in
set_option maxHeartbeats 1000000 in
theorem rerr_any (q : Qd) (w : World) :
    Calls Try.prog 16 #[.agg #[.int .i64 q.w, .int .i64 q.x, .int .i64 q.y, .int .i64 q.z, .int .i64 q.d]] w fun e w' => e = .returned (.int .i64 q.oerr) ∧ Below w.heap.size w w' := by
  have c := rquatErr_any q
  rcases q.oerr_cases with h | h | h | h
  · rw [show q.err = 3 by simp [Qd.err, h.1]] at c
    rw [h.2]
    have C := Lib.hid c
    clear c h
    go_enter Try.func16, Try.ntmps16
    go_wp2_with (first | (go_at_call 68; with_reducible refine (C.out _).mono ?_; rintro e w1 ⟨rfl, hb1⟩; obtain ⟨g1, rfl⟩ := more_of_below hb1; clear hb1))
    go_ret
    exact ⟨rfl, by (repeat (first | with_reducible assumption | with_reducible exact Below.refl _ _ | with_reducible refine Below.drewN ?_ _ | with_reducible refine Below.drew ?_ | with_reducible refine Below.alloc ?_ (by first | omega | (simp; done) | (simp; omega)) _ | with_reducible refine Below.setCell ?_ (by first | omega | (simp; done) | (simp; omega)) _ | with_reducible refine below_more _ _ ?_ (by first | omega | (simp; done) | (simp; omega))))⟩
  · rw [show q.err = 0 by simp [Qd.err, h.1]] at c
    rw [h.2.2]
    have C := Lib.hid c
    have C2 := Lib.hid (rof_no q h.1 h.2.1)
    clear c h
    go_enter Try.func16, Try.ntmps16
    go_wp2_with (first | (go_at_call 68; with_reducible refine (C.out _).mono ?_; rintro e w1 ⟨rfl, hb1⟩; obtain ⟨g1, rfl⟩ := more_of_below hb1; clear hb1) | (go_at_call 17; with_reducible refine (C2.out _).mono ?_; rintro e w2 ⟨rfl, hb2⟩; obtain ⟨g2, rfl⟩ := more_of_below hb2; clear hb2))
    go_ret
    exact ⟨rfl, by (repeat (first | with_reducible assumption | with_reducible exact Below.refl _ _ | with_reducible refine Below.drewN ?_ _ | with_reducible refine Below.drew ?_ | with_reducible refine Below.alloc ?_ (by first | omega | (simp; done) | (simp; omega)) _ | with_reducible refine Below.setCell ?_ (by first | omega | (simp; done) | (simp; omega)) _ | with_reducible refine below_more _ _ ?_ (by first | omega | (simp; done) | (simp; omega))))⟩
  · rw [show q.err = 0 by simp [Qd.err, h.1]] at c
    rw [h.2.2.2]
    have C := Lib.hid c
    have C2 := Lib.hid (rof_ok q h.1 h.2.1)
    have hn := Qd.rdv_nrm h.1
    have hh := h.2.2.1
    clear c h
    go_enter Try.func16, Try.ntmps16
    go_wp2_with (first | (go_at_call 68; with_reducible refine (C.out _).mono ?_; rintro e w1 ⟨rfl, hb1⟩; obtain ⟨g1, rfl⟩ := more_of_below hb1; clear hb1) | (go_at_call 17; with_reducible refine (C2.out _).mono ?_; rintro e w2 ⟨rfl, hb2⟩; obtain ⟨g2, rfl⟩ := more_of_below hb2; clear hb2) | (go_at_call 21; with_reducible refine (rnorm_in _ (by omega) _).mono ?_; rintro e w3 ⟨rfl, hb3⟩; obtain ⟨g3, rfl⟩ := more_of_below hb3; clear hb3))
    go_ret
    exact ⟨rfl, by (repeat (first | with_reducible assumption | with_reducible exact Below.refl _ _ | with_reducible refine Below.drewN ?_ _ | with_reducible refine Below.drew ?_ | with_reducible refine Below.alloc ?_ (by first | omega | (simp; done) | (simp; omega)) _ | with_reducible refine Below.setCell ?_ (by first | omega | (simp; done) | (simp; omega)) _ | with_reducible refine below_more _ _ ?_ (by first | omega | (simp; done) | (simp; omega))))⟩
  · rw [show q.err = 0 by simp [Qd.err, h.1]] at c
    rw [h.2.2.2]
    have C := Lib.hid c
    have C2 := Lib.hid (rof_ok q h.1 h.2.1)
    have hn := Qd.rdv_nrm h.1
    have hh := h.2.2.1
    clear c h
    go_enter Try.func16, Try.ntmps16
    go_wp2_with (first | (go_at_call 68; with_reducible refine (C.out _).mono ?_; rintro e w1 ⟨rfl, hb1⟩; obtain ⟨g1, rfl⟩ := more_of_below hb1; clear hb1) | (go_at_call 17; with_reducible refine (C2.out _).mono ?_; rintro e w2 ⟨rfl, hb2⟩; obtain ⟨g2, rfl⟩ := more_of_below hb2; clear hb2) | (go_at_call 21; with_reducible refine (rnorm_in _ (by omega) _).mono ?_; rintro e w3 ⟨rfl, hb3⟩; obtain ⟨g3, rfl⟩ := more_of_below hb3; clear hb3))
    go_ret
    exact ⟨rfl, by (repeat (first | with_reducible assumption | with_reducible exact Below.refl _ _ | with_reducible refine Below.drewN ?_ _ | with_reducible refine Below.drew ?_ | with_reducible refine Below.alloc ?_ (by first | omega | (simp; done) | (simp; omega)) _ | with_reducible refine Below.setCell ?_ (by first | omega | (simp; done) | (simp; omega)) _ | with_reducible refine below_more _ _ ?_ (by first | omega | (simp; done) | (simp; omega))))⟩

set_option maxHeartbeats 400000 in
theorem rquat_hz (a : Qt) (h : a.InR) (hh : Qt.Hz a) (w : World) :
    Calls Try.prog 20 #[.agg #[.int .i64 a.w, .int .i64 a.x, .int .i64 a.y, .int .i64 a.z]] w fun e w' => e = .returned (.agg #[.int .i64 a.toQ.w, .int .i64 a.toQ.x, .int .i64 a.toQ.y, .int .i64 a.toQ.z, .int .i64 a.toQ.d]) ∧ Below w.heap.size w w' := by
  have c := lowest_in ⟨a.w, a.x, a.y, a.z, 2⟩ h.1 h.2.1 h.2.2.1 h.2.2.2 (by simp only; omega) (by unfold N4; simp only; omega)
  rw [Qt.toQ_low hh] at c
  have C := Lib.hid c
  clear c h hh
  go_enter Try.func20, Try.ntmps20
  go_wp2_with (first | (go_at_call 69; with_reducible refine (C.out _).mono ?_; rintro e w1 ⟨rfl, hb1⟩; obtain ⟨g1, rfl⟩ := more_of_below hb1; clear hb1))
  refine bodyPost_ret (v := .agg #[.int .i64 a.toQ.w, .int .i64 a.toQ.x, .int .i64 a.toQ.y, .int .i64 a.toQ.z, .int .i64 a.toQ.d]) (by simp [results, Try.results20, go_sem]) rfl ⟨rfl, ?_⟩
  (repeat (first | with_reducible assumption | with_reducible exact Below.refl _ _ | with_reducible refine Below.drewN ?_ _ | with_reducible refine Below.drew ?_ | with_reducible refine Below.alloc ?_ (by first | omega | (simp; done) | (simp; omega)) _ | with_reducible refine Below.setCell ?_ (by first | omega | (simp; done) | (simp; omega)) _ | with_reducible refine below_more _ _ ?_ (by first | omega | (simp; done) | (simp; omega))))
end Go.Proofs.Ythajaabgcbjfkaa

namespace Go.Proofs.Ythajaabgcbjfkaa
open Go.RowKit

set_option maxRecDepth 10000 in
set_option maxHeartbeats 2000000 in
theorem rdivide_in (x y T qa qb ra rb : Qt) (N : Int) (hN1 : 1 ≤ N) (hN2 : N ≤ 1000000000000) (hT : Qt.Bd 4000000000000 T) (w : World)
    (ea : Qt.qaR T N = qa) (eb : Qt.qbR T N = qb) (ba : Qt.Bd 40000000000000 qa) (bb : Qt.Bd 40000000000000 qb)
    (cc : ∀ w, Calls Try.prog 70 #[.agg #[.int .i64 y.w, .int .i64 y.x, .int .i64 y.y, .int .i64 y.z]] w fun e w' => e = .returned (.agg #[.int .i64 y.conj.w, .int .i64 y.conj.x, .int .i64 y.conj.y, .int .i64 y.conj.z]) ∧ Below w.heap.size w w')
    (ct : ∀ w, Calls Try.prog 23 #[.agg #[.int .i64 y.conj.w, .int .i64 y.conj.x, .int .i64 y.conj.y, .int .i64 y.conj.z], .agg #[.int .i64 x.w, .int .i64 x.x, .int .i64 x.y, .int .i64 x.z]] w fun e w' => e = .returned (.agg #[.int .i64 T.w, .int .i64 T.x, .int .i64 T.y, .int .i64 T.z]) ∧ Below w.heap.size w w')
    (cn : ∀ w, Calls Try.prog 21 #[.agg #[.int .i64 y.w, .int .i64 y.x, .int .i64 y.y, .int .i64 y.z]] w fun e w' => e = .returned (.int .i64 N) ∧ Below w.heap.size w w')
    (ca : ∀ w, Calls Try.prog 23 #[.agg #[.int .i64 y.w, .int .i64 y.x, .int .i64 y.y, .int .i64 y.z], .agg #[.int .i64 qa.w, .int .i64 qa.x, .int .i64 qa.y, .int .i64 qa.z]] w fun e w' => e = .returned (.agg #[.int .i64 (Qt.hm y qa).w, .int .i64 (Qt.hm y qa).x, .int .i64 (Qt.hm y qa).y, .int .i64 (Qt.hm y qa).z]) ∧ Below w.heap.size w w')
    (cb : ∀ w, Calls Try.prog 23 #[.agg #[.int .i64 y.w, .int .i64 y.x, .int .i64 y.y, .int .i64 y.z], .agg #[.int .i64 qb.w, .int .i64 qb.x, .int .i64 qb.y, .int .i64 qb.z]] w fun e w' => e = .returned (.agg #[.int .i64 (Qt.hm y qb).w, .int .i64 (Qt.hm y qb).x, .int .i64 (Qt.hm y qb).y, .int .i64 (Qt.hm y qb).z]) ∧ Below w.heap.size w w')
    (ma : ∀ w, Calls Try.prog 22 #[.agg #[.int .i64 x.w, .int .i64 x.x, .int .i64 x.y, .int .i64 x.z], .agg #[.int .i64 (Qt.hm y qa).w, .int .i64 (Qt.hm y qa).x, .int .i64 (Qt.hm y qa).y, .int .i64 (Qt.hm y qa).z]] w fun e w' => e = .returned (.agg #[.int .i64 ra.w, .int .i64 ra.x, .int .i64 ra.y, .int .i64 ra.z]) ∧ Below w.heap.size w w')
    (mb : ∀ w, Calls Try.prog 22 #[.agg #[.int .i64 x.w, .int .i64 x.x, .int .i64 x.y, .int .i64 x.z], .agg #[.int .i64 (Qt.hm y qb).w, .int .i64 (Qt.hm y qb).x, .int .i64 (Qt.hm y qb).y, .int .i64 (Qt.hm y qb).z]] w fun e w' => e = .returned (.agg #[.int .i64 rb.w, .int .i64 rb.x, .int .i64 rb.y, .int .i64 rb.z]) ∧ Below w.heap.size w w')
    (na : ∀ w, Calls Try.prog 21 #[.agg #[.int .i64 ra.w, .int .i64 ra.x, .int .i64 ra.y, .int .i64 ra.z]] w fun e w' => e = .returned (.int .i64 (ra.nrm / 4)) ∧ Below w.heap.size w w')
    (nb : ∀ w, Calls Try.prog 21 #[.agg #[.int .i64 rb.w, .int .i64 rb.x, .int .i64 rb.y, .int .i64 rb.z]] w fun e w' => e = .returned (.int .i64 (rb.nrm / 4)) ∧ Below w.heap.size w w') :
    Calls Try.prog 19 #[.agg #[.int .i64 x.w, .int .i64 x.x, .int .i64 x.y, .int .i64 x.z], .agg #[.int .i64 y.w, .int .i64 y.x, .int .i64 y.y, .int .i64 y.z]] w fun e w' => e = .returned (.tuple #[.agg #[.int .i64 ((if rb.nrm / 4 < ra.nrm / 4 then qb else qa)).w, .int .i64 ((if rb.nrm / 4 < ra.nrm / 4 then qb else qa)).x, .int .i64 ((if rb.nrm / 4 < ra.nrm / 4 then qb else qa)).y, .int .i64 ((if rb.nrm / 4 < ra.nrm / 4 then qb else qa)).z], .agg #[.int .i64 ((if rb.nrm / 4 < ra.nrm / 4 then rb else ra)).w, .int .i64 ((if rb.nrm / 4 < ra.nrm / 4 then rb else ra)).x, .int .i64 ((if rb.nrm / 4 < ra.nrm / 4 then rb else ra)).y, .int .i64 ((if rb.nrm / 4 < ra.nrm / 4 then rb else ra)).z]]) ∧ Below w.heap.size w w' := by
  generalize hqo : (if rb.nrm / 4 < ra.nrm / 4 then qb else qa) = qo
  generalize hro : (if rb.nrm / 4 < ra.nrm / 4 then rb else ra) = ro
  have HQ := Lib.hid hqo
  have HR := Lib.hid hro
  clear hqo hro
  have CC := Lib.hid cc; have CT := Lib.hid ct; have CN := Lib.hid cn; have CA := Lib.hid ca; have CB := Lib.hid cb
  have MA := Lib.hid ma; have MB := Lib.hid mb; have NA := Lib.hid na; have NB := Lib.hid nb
  clear cc ct cn ca cb ma mb na nb
  generalize Qt.hm y qa = ta at *
  generalize Qt.hm y qb = tb at *
  obtain ⟨⟨qa1, qa2⟩, ⟨qa3, qa4⟩, ⟨qa5, qa6⟩, ⟨qa7, qa8⟩⟩ := ba
  obtain ⟨⟨qb1, qb2⟩, ⟨qb3, qb4⟩, ⟨qb5, qb6⟩, ⟨qb7, qb8⟩⟩ := bb
  obtain ⟨⟨t1, t2⟩, ⟨t3, t4⟩, ⟨t5, t6⟩, ⟨t7, t8⟩⟩ := hT
  have eaw : 2 * ((T.w + N) / (2 * N)) = qa.w := congrArg Qt.w ea
  have eax : 2 * ((T.x + N) / (2 * N)) = qa.x := congrArg Qt.x ea
  have eay : 2 * ((T.y + N) / (2 * N)) = qa.y := congrArg Qt.y ea
  have eaz : 2 * ((T.z + N) / (2 * N)) = qa.z := congrArg Qt.z ea
  have ebw : 2 * (T.w / (2 * N)) + 1 = qb.w := congrArg Qt.w eb
  have ebx : 2 * (T.x / (2 * N)) + 1 = qb.x := congrArg Qt.x eb
  have eby : 2 * (T.y / (2 * N)) + 1 = qb.y := congrArg Qt.y eb
  have ebz : 2 * (T.z / (2 * N)) + 1 = qb.z := congrArg Qt.z eb
  clear ea eb
  go_enter Try.func19, Try.ntmps19
  go_wp2_with fail
  (apply wp_region_own 5 [.inl _, .inl _, .inl _, .inl _, .inr (.cells #[.int .i64 0, .int .i64 0, .int .i64 0, .int .i64 0] 32)] (by kernel_rfl) (by kernel_rfl); simp only [List.take_succ_cons, List.take_zero, List.drop_succ_cons, List.drop_zero]; (refine lexM_val rfl (fun K hK => ?_); go_simp; (try go_bits); refine ⟨fun w' hw' => ?_, hK _ ?_⟩; (focus (first | with_reducible exact rfl | (go_at_call 70; (with_reducible exact CC.out _)) | (go_at_call 23; (with_reducible exact CT.out _)) | (obtain ⟨gx, rfl⟩ := more_of_below (Ext.below hw'); go_simp; exact rfl))); clear hK K); (refine lexM_val rfl (fun K hK => ?_); go_simp; (try go_bits); refine ⟨fun w' hw' => ?_, hK _ ?_⟩; (focus (first | with_reducible exact rfl | (go_at_call 70; (with_reducible exact CC.out _)) | (go_at_call 23; (with_reducible exact CT.out _)) | (obtain ⟨gx, rfl⟩ := more_of_below (Ext.below hw'); go_simp; exact rfl))); clear hK K); (refine lexM_val rfl (fun K hK => ?_); go_simp; (try go_bits); refine ⟨fun w' hw' => ?_, hK _ ?_⟩; (focus (first | with_reducible exact rfl | (go_at_call 70; (with_reducible exact CC.out _)) | (go_at_call 23; (with_reducible exact CT.out _)) | (obtain ⟨gx, rfl⟩ := more_of_below (Ext.below hw'); go_simp; exact rfl))); clear hK K); (refine lexM_val rfl (fun K hK => ?_); go_simp; (try go_bits); refine ⟨fun w' hw' => ?_, hK _ ?_⟩; (focus (first | with_reducible exact rfl | (go_at_call 70; (with_reducible exact CC.out _)) | (go_at_call 23; (with_reducible exact CT.out _)) | (obtain ⟨gx, rfl⟩ := more_of_below (Ext.below hw'); go_simp; exact rfl))); clear hK K); (refine lexM_mem rfl rfl (fun w => by first | rfl | (go_simp; rfl)) (fun b11 hb11 hn11 => ?_); simp only [Act.put, List.setIfInBounds_toArray, List.set_cons_succ, List.set_cons_zero]); intro w1 hw1; have hB1 := hw1.1; have hO11 := (hw1.2 b11 _ (Or.inl ⟨rfl, rfl⟩)).2; clear hn11 hw1; obtain ⟨g1, g1', hE1, rfl⟩ := split_block hB1 hb11 hO11; clear hB1 hb11 hO11; (repeat (first | simp only [size_more_eq] at hE1 | simp only [World.size_alloc] at hE1)); subst hE1)
  go_wp2_with (first | (go_at_call 21; with_reducible refine (CN.out _).mono ?_; rintro e w2 ⟨rfl, hb2⟩; obtain ⟨g2, rfl⟩ := more_of_below hb2; clear hb2))
  refine wp_loop_rounds 5 ?_
  repeat any_goals (rw [rounds_succ]; go_wp2_with (first | (go_at_call 71; with_reducible refine (rfloor_in _ _ (by omega) (by omega) (by omega) (by omega) _).mono ?_; rintro e w' ⟨rfl, rfl⟩)))
  (apply wp_region_own 12 [.inl _, .inl _, .inl _, .inl _, .inl _, .inl _, .inl _, .inl _, .inl _, .inl _, .inr (.cells #[.int .i64 0, .int .i64 0, .int .i64 0, .int .i64 0] 32), .inr (.cells #[.int .i64 0, .int .i64 0, .int .i64 0, .int .i64 0] 32)] (by kernel_rfl) (by kernel_rfl); simp only [List.take_succ_cons, List.take_zero, List.drop_succ_cons, List.drop_zero]; (refine lexM_val rfl (fun K hK => ?_); go_simp; (try go_bits); refine ⟨fun w' hw' => ?_, hK _ ?_⟩; (focus (first | with_reducible exact rfl | (go_at_call 23; (first | with_reducible exact CA.out _ | with_reducible exact CB.out _)) | (go_at_call 22; (first | with_reducible exact MA.out _ | with_reducible exact MB.out _)) | (obtain ⟨gx, rfl⟩ := more_of_below (Ext.below hw'); go_simp; exact rfl))); clear hK K); (refine lexM_val rfl (fun K hK => ?_); go_simp; (try go_bits); refine ⟨fun w' hw' => ?_, hK _ ?_⟩; (focus (first | with_reducible exact rfl | (go_at_call 23; (first | with_reducible exact CA.out _ | with_reducible exact CB.out _)) | (go_at_call 22; (first | with_reducible exact MA.out _ | with_reducible exact MB.out _)) | (obtain ⟨gx, rfl⟩ := more_of_below (Ext.below hw'); go_simp; exact rfl))); clear hK K); (refine lexM_val rfl (fun K hK => ?_); go_simp; (try go_bits); refine ⟨fun w' hw' => ?_, hK _ ?_⟩; (focus (first | with_reducible exact rfl | (go_at_call 23; (first | with_reducible exact CA.out _ | with_reducible exact CB.out _)) | (go_at_call 22; (first | with_reducible exact MA.out _ | with_reducible exact MB.out _)) | (obtain ⟨gx, rfl⟩ := more_of_below (Ext.below hw'); go_simp; exact rfl))); clear hK K); (refine lexM_val rfl (fun K hK => ?_); go_simp; (try go_bits); refine ⟨fun w' hw' => ?_, hK _ ?_⟩; (focus (first | with_reducible exact rfl | (go_at_call 23; (first | with_reducible exact CA.out _ | with_reducible exact CB.out _)) | (go_at_call 22; (first | with_reducible exact MA.out _ | with_reducible exact MB.out _)) | (obtain ⟨gx, rfl⟩ := more_of_below (Ext.below hw'); go_simp; exact rfl))); clear hK K); (refine lexM_val rfl (fun K hK => ?_); go_simp; (try go_bits); refine ⟨fun w' hw' => ?_, hK _ ?_⟩; (focus (first | with_reducible exact rfl | (go_at_call 23; (first | with_reducible exact CA.out _ | with_reducible exact CB.out _)) | (go_at_call 22; (first | with_reducible exact MA.out _ | with_reducible exact MB.out _)) | (obtain ⟨gx, rfl⟩ := more_of_below (Ext.below hw'); go_simp; exact rfl))); clear hK K); (refine lexM_val rfl (fun K hK => ?_); go_simp; (try go_bits); refine ⟨fun w' hw' => ?_, hK _ ?_⟩; (focus (first | with_reducible exact rfl | (go_at_call 23; (first | with_reducible exact CA.out _ | with_reducible exact CB.out _)) | (go_at_call 22; (first | with_reducible exact MA.out _ | with_reducible exact MB.out _)) | (obtain ⟨gx, rfl⟩ := more_of_below (Ext.below hw'); go_simp; exact rfl))); clear hK K); (refine lexM_val rfl (fun K hK => ?_); go_simp; (try go_bits); refine ⟨fun w' hw' => ?_, hK _ ?_⟩; (focus (first | with_reducible exact rfl | (go_at_call 23; (first | with_reducible exact CA.out _ | with_reducible exact CB.out _)) | (go_at_call 22; (first | with_reducible exact MA.out _ | with_reducible exact MB.out _)) | (obtain ⟨gx, rfl⟩ := more_of_below (Ext.below hw'); go_simp; exact rfl))); clear hK K); (refine lexM_val rfl (fun K hK => ?_); go_simp; (try go_bits); refine ⟨fun w' hw' => ?_, hK _ ?_⟩; (focus (first | with_reducible exact rfl | (go_at_call 23; (first | with_reducible exact CA.out _ | with_reducible exact CB.out _)) | (go_at_call 22; (first | with_reducible exact MA.out _ | with_reducible exact MB.out _)) | (obtain ⟨gx, rfl⟩ := more_of_below (Ext.below hw'); go_simp; exact rfl))); clear hK K); (refine lexM_val rfl (fun K hK => ?_); go_simp; (try go_bits); refine ⟨fun w' hw' => ?_, hK _ ?_⟩; (focus (first | with_reducible exact rfl | (go_at_call 23; (first | with_reducible exact CA.out _ | with_reducible exact CB.out _)) | (go_at_call 22; (first | with_reducible exact MA.out _ | with_reducible exact MB.out _)) | (obtain ⟨gx, rfl⟩ := more_of_below (Ext.below hw'); go_simp; exact rfl))); clear hK K); (refine lexM_val rfl (fun K hK => ?_); go_simp; (try go_bits); refine ⟨fun w' hw' => ?_, hK _ ?_⟩; (focus (first | with_reducible exact rfl | (go_at_call 23; (first | with_reducible exact CA.out _ | with_reducible exact CB.out _)) | (go_at_call 22; (first | with_reducible exact MA.out _ | with_reducible exact MB.out _)) | (obtain ⟨gx, rfl⟩ := more_of_below (Ext.below hw'); go_simp; exact rfl))); clear hK K); (refine lexM_mem rfl rfl (fun w => by first | rfl | (go_simp; rfl)) (fun b31 hb31 hn31 => ?_); simp only [Act.put, List.setIfInBounds_toArray, List.set_cons_succ, List.set_cons_zero]); (refine lexM_mem rfl rfl (fun w => by first | rfl | (go_simp; rfl)) (fun b32 hb32 hn32 => ?_); simp only [Act.put, List.setIfInBounds_toArray, List.set_cons_succ, List.set_cons_zero]); intro w3 hw3; have hB3 := hw3.1; have hO31 := (hw3.2 b31 _ (Or.inr (Or.inl ⟨rfl, rfl⟩))).2; have hO32 := (hw3.2 b32 _ (Or.inl ⟨rfl, rfl⟩)).2; have hd3 : b31 ≠ b32 := hn32 b31 _ (Or.inl ⟨rfl, rfl⟩); clear hn31 hn32 hw3; refine Or.elim (Nat.lt_or_gt_of_ne hd3) (fun hlt3 => ?_) (fun hlt3 => ?_); (focus (obtain ⟨g3, g3', g3'', hE3, hF3, rfl⟩ := split_two hB3 hb31 hO31 hO32 hlt3; clear hB3 hb31 hb32 hO31 hO32 hlt3 hd3; (repeat (first | simp only [size_more_eq] at hE3 | simp only [World.size_alloc] at hE3)); (repeat (first | simp only [size_more_eq] at hF3 | simp only [World.size_alloc] at hF3)); subst hE3; subst hF3)); rotate_left; (focus (obtain ⟨g3, g3', g3'', hE3, hF3, rfl⟩ := split_two hB3 hb32 hO32 hO31 hlt3; clear hB3 hb31 hb32 hO31 hO32 hlt3 hd3; (repeat (first | simp only [size_more_eq] at hE3 | simp only [World.size_alloc] at hE3)); (repeat (first | simp only [size_more_eq] at hF3 | simp only [World.size_alloc] at hF3)); subst hE3; subst hF3)))
  all_goals (clear CA CB MA MB CC CT CN)
  all_goals go_wp2_with fail
  all_goals ((refine wp_region_quiet (C := Ext _) (by kernel_rfl) (by kernel_rfl) (Ext.start _) ?_; simp only []; (repeat (refine wpQuiet_step (fun K hK => ?_); go_simp; (try go_bits); apply Exists.intro; refine ⟨fun w' hw' => ?_, hK _ ?_⟩; (focus (first | with_reducible exact rfl | (go_at_call 21; (first | with_reducible exact Ext.call hw' (NB.out _) | with_reducible exact Ext.call hw' (NA.out _))) | (obtain ⟨gx, rfl⟩ := more_of_below (Ext.below hw'); go_simp; exact rfl))); clear hK K)); refine wpQuiet_nil ?_; intro w4 hw4; have hb4 := Ext.below hw4; clear hw4; obtain ⟨g4, rfl⟩ := more_of_below hb4; clear hb4))
  all_goals go_wp2
  all_goals go_region
  all_goals go_wp2
  all_goals (first | (have hp : rb.nrm / 4 < ra.nrm / 4 := (by assumption); have h1 := HQ.out; have h2 := HR.out; rw [if_pos hp] at h1 h2; subst h1 h2; refine bodyPost_ret (v := .tuple #[.agg #[.int .i64 qb.w, .int .i64 qb.x, .int .i64 qb.y, .int .i64 qb.z], .agg #[.int .i64 rb.w, .int .i64 rb.x, .int .i64 rb.y, .int .i64 rb.z]]) (by simp [results, Try.results19, go_sem]; done) rfl ⟨rfl, ?_⟩) | (have hp : ¬ rb.nrm / 4 < ra.nrm / 4 := (by omega); have h1 := HQ.out; have h2 := HR.out; rw [if_neg hp] at h1 h2; subst h1 h2; refine bodyPost_ret (v := .tuple #[.agg #[.int .i64 qa.w, .int .i64 qa.x, .int .i64 qa.y, .int .i64 qa.z], .agg #[.int .i64 ra.w, .int .i64 ra.x, .int .i64 ra.y, .int .i64 ra.z]]) (by simp [results, Try.results19, go_sem]; done) rfl ⟨rfl, ?_⟩))
  all_goals ((repeat (first | with_reducible assumption | with_reducible exact Below.refl _ _ | with_reducible refine Below.drewN ?_ _ | with_reducible refine Below.drew ?_ | with_reducible refine Below.alloc ?_ (by first | omega | (simp; done) | (simp; omega)) _ | with_reducible refine Below.setCell ?_ (by first | omega | (simp; done) | (simp; omega)) _ | with_reducible refine below_more _ _ ?_ (by first | omega | (simp; done) | (simp; omega)))))

/-- Division of Hurwitz quaternions, by the reference. -/
theorem rdivide_hz (x y : Qt) (hx : Qt.Hz x) (hy : Qt.Hz y) (bx : x.nrm ≤ 4000000000000) (b : y.nrm ≤ 4000000000000) (h0 : 1 ≤ y.nrm) (w : World) :
    Calls Try.prog 19 #[.agg #[.int .i64 x.w, .int .i64 x.x, .int .i64 x.y, .int .i64 x.z], .agg #[.int .i64 y.w, .int .i64 y.x, .int .i64 y.y, .int .i64 y.z]] w fun e w' => e = .returned (.tuple #[.agg #[.int .i64 (x.quo y).w, .int .i64 (x.quo y).x, .int .i64 (x.quo y).y, .int .i64 (x.quo y).z], .agg #[.int .i64 (x.dr y).w, .int .i64 (x.dr y).x, .int .i64 (x.dr y).y, .int .i64 (x.dr y).z]]) ∧ Below w.heap.size w w' := by
  have hD : Qt.Dv x y := ⟨bx, b, h0, Qt.hz_nrm hy⟩
  have h4 := Qt.hz_nrm hy
  have ht : (y.conj.mul x).nrm ≤ 4000000000000 * 4000000000000 := by
    rw [Qt.nrm_mul, Qt.nrm_conj]
    exact Int.le_trans (Int.mul_le_mul_of_nonneg_left bx (by omega)) (Int.mul_le_mul_of_nonneg_right b (by omega))
  have hT : Qt.Bd 4000000000000 (y.conj.mul x) := Qt.bd_of_nrm (by omega) ht
  have hm := (Qt.hm_spec (Qt.hz_conj hy) hx).2
  have hT2 : Qt.Bd 4000000000000 (Qt.hm y.conj x) := by
    have e1 := congrArg Qt.w hm; have e2 := congrArg Qt.x hm; have e3 := congrArg Qt.y hm; have e4 := congrArg Qt.z hm
    simp only [Qt.dbl] at e1 e2 e3 e4
    obtain ⟨⟨_, _⟩, ⟨_, _⟩, ⟨_, _⟩, ⟨_, _⟩⟩ := hT
    refine ⟨?_, ?_, ?_, ?_⟩ <;> omega
  have hx1 := Qt.bd_of_nrm (a := x) (B := 2000000) (by omega) (by omega)
  have ra := Qt.rm_a (x := x) hy h0
  have rb := Qt.rm_b (x := x) hy h0
  have big : ∀ q, Qt.Hz q → (x.rm y q).nrm ≤ y.nrm → (y.mul q).InR := fun q hq hr => by
    have h1 := Qt.rm_dbl (x := x) hy hq
    have h2 := Qt.bd_of_nrm (a := x.rm y q) (B := 2000000) (by omega) (by omega)
    have e1 := congrArg Qt.w h1; have e2 := congrArg Qt.x h1; have e3 := congrArg Qt.y h1; have e4 := congrArg Qt.z h1
    simp only [Qt.dbl, Qt.sub] at e1 e2 e3 e4
    obtain ⟨⟨_, _⟩, ⟨_, _⟩, ⟨_, _⟩, ⟨_, _⟩⟩ := hx1
    obtain ⟨⟨_, _⟩, ⟨_, _⟩, ⟨_, _⟩, ⟨_, _⟩⟩ := h2
    unfold Qt.InR
    refine ⟨?_, ?_, ?_, ?_⟩ <;> omega
  have k := rdivide_in x y (Qt.hm y.conj x) (x.qa y) (x.qb y) (x.rm y (x.qa y)) (x.rm y (x.qb y)) (y.nrm / 4) (by omega) (by omega) hT2 w
    (Qt.qaR_eq hx hy h0).1 (Qt.qaR_eq hx hy h0).2 (Qt.qa_bd x y hD hT) (Qt.qb_bd x y hD hT)
    (fun w => rconj_in y w (Qt.inR_of_nrm (by omega))) (rtimes_in y.conj x (Qt.inR_of_nrm (by omega))) (rnorm_in y (by omega))
    (rtimes_in y _ (big _ (Qt.hz_qa x y) ra)) (rtimes_in y _ (big _ (Qt.hz_qb x y) rb))
    (rminus_in x _ (Qt.inR_of_nrm (a := x.rm y (x.qa y)) (by omega))) (rminus_in x _ (Qt.inR_of_nrm (a := x.rm y (x.qb y)) (by omega)))
    (rnorm_in _ (by omega)) (rnorm_in _ (by omega))
  have e1 : x.quo y = if (x.rm y (x.qb y)).nrm / 4 < (x.rm y (x.qa y)).nrm / 4 then x.qb y else x.qa y := by
    unfold Qt.quo Qt.pickb; simp only [decide_eq_true_eq]
  have e2 : x.dr y = if (x.rm y (x.qb y)).nrm / 4 < (x.rm y (x.qa y)).nrm / 4 then x.rm y (x.qb y) else x.rm y (x.qa y) := by
    unfold Qt.dr; rw [e1]; split <;> rfl
  rw [e1, e2]
  exact k
end Go.Proofs.Ythajaabgcbjfkaa

namespace Go.Proofs.Ythajaabgcbjfkaa
open Go.RowKit
namespace Qt
theorem bd_InR {a : Qt} {B : Int} (hB : B ≤ 4000000000000000000) (h : Bd B a) : a.InR := by
  obtain ⟨⟨_, _⟩, ⟨_, _⟩, ⟨_, _⟩, ⟨_, _⟩⟩ := h
  unfold InR; refine ⟨?_, ?_, ?_, ?_⟩ <;> omega
structure DivF (x y : Qt) : Prop where
  quoB : Bd 40000000000000 (x.quo y)
  drN : 2 * (x.dr y).nrm ≤ y.nrm
  drB : Bd 2000000 (x.dr y)
  mulI : (y.mul (x.quo y)).InR
  hmB : Bd 4000000 (hm y (x.quo y))
theorem divF {x y : Qt} (hx : Hz x) (hy : Hz y) (bx : x.nrm ≤ 4000000000000) (b : y.nrm ≤ 4000000000000) (h0 : 1 ≤ y.nrm) : DivF x y := by
  have hD : Dv x y := ⟨bx, b, h0, hz_nrm hy⟩
  have ht : (y.conj.mul x).nrm ≤ 4000000000000 * 4000000000000 := by
    rw [nrm_mul, nrm_conj]
    exact Int.le_trans (Int.mul_le_mul_of_nonneg_left bx (by omega)) (Int.mul_le_mul_of_nonneg_right b (by omega))
  have hT : Bd 4000000000000 (y.conj.mul x) := bd_of_nrm (by omega) ht
  have hx1 := bd_of_nrm (a := x) (B := 2000000) (by omega) (by omega)
  have hq : Bd 40000000000000 (x.quo y) := by
    unfold quo; split
    · exact qb_bd x y hD hT
    · exact qa_bd x y hD hT
  have hn := dr_nrm hx hy h0
  have hd : Bd 2000000 (x.dr y) := bd_of_nrm (by omega) (by omega)
  have h1 := dr_eq x y hy
  have h2 := (hm_spec hy (hz_quo x y)).2
  rw [h2] at h1
  have e1 := congrArg Qt.w h1; have e2 := congrArg Qt.x h1; have e3 := congrArg Qt.y h1; have e4 := congrArg Qt.z h1
  simp only [dbl, sub] at e1 e2 e3 e4
  have hB : Bd 4000000 (hm y (x.quo y)) := by
    obtain ⟨⟨_, _⟩, ⟨_, _⟩, ⟨_, _⟩, ⟨_, _⟩⟩ := hx1
    obtain ⟨⟨_, _⟩, ⟨_, _⟩, ⟨_, _⟩, ⟨_, _⟩⟩ := hd
    refine ⟨?_, ?_, ?_, ?_⟩ <;> omega
  refine ⟨hq, hn, hd, ?_, hB⟩
  rw [h2]
  obtain ⟨⟨_, _⟩, ⟨_, _⟩, ⟨_, _⟩, ⟨_, _⟩⟩ := hB
  unfold InR dbl; refine ⟨?_, ?_, ?_, ?_⟩ <;> (simp only; omega)
end Qt

/-- What an element that can be opened gives. -/
structure Opn (q : Qd) : Prop where
  okb : q.okb = true
  rdok : q.rdok = true
  hz : Qt.Hz q.rdv
  nrm : q.rdv.nrm ≤ 4000000
theorem Opn.of {q : Qd} (h : q.oerr = 0) : Opn q := by
  obtain ⟨h1, h2, h3⟩ := Qd.oerr_zero h
  have hz := Qd.hz_rdv h2
  have := Qt.hz_nrm hz
  exact ⟨h1, h2, hz, by omega⟩
theorem oerrL_two (x y : Qd) : oerrL [x, y] = if x.oerr = 0 then y.oerr else x.oerr := by
  simp only [oerrL]
  split
  · by_cases h : y.oerr = 0 <;> simp [h]
  · rfl
/-- Divide, of two elements that can be opened. -/
theorem divide_opn (x y : Qd) (hx : x.oerr = 0) (hy : y.oerr = 0) (hz : y.rdv.eqb ⟨0, 0, 0, 0⟩ = false) (w : World) :
    Calls Try.prog 15 #[.agg #[.int .i64 x.w, .int .i64 x.x, .int .i64 x.y, .int .i64 x.z, .int .i64 x.d], .agg #[.int .i64 y.w, .int .i64 y.x, .int .i64 y.y, .int .i64 y.z, .int .i64 y.d]] w fun e w' => e = .returned (.tuple #[.agg #[.int .i64 ((x.rdv.quo y.rdv).toQ.w), .int .i64 ((x.rdv.quo y.rdv).toQ.x), .int .i64 ((x.rdv.quo y.rdv).toQ.y), .int .i64 ((x.rdv.quo y.rdv).toQ.z), .int .i64 ((x.rdv.quo y.rdv).toQ.d), .int .i64 ((x.rdv.dr y.rdv).toQ.w), .int .i64 ((x.rdv.dr y.rdv).toQ.x), .int .i64 ((x.rdv.dr y.rdv).toQ.y), .int .i64 ((x.rdv.dr y.rdv).toQ.z), .int .i64 ((x.rdv.dr y.rdv).toQ.d)], .int .i64 0]) ∧ Below w.heap.size w w' := by
  obtain ⟨_, _, hx3, hx4⟩ := Opn.of hx
  obtain ⟨_, _, hy3, hy4⟩ := Opn.of hy
  have h0 := nrm_pos_of hz
  have F := Qt.divF hx3 hy3 (by omega) (by omega) h0
  exact divide_ok x y w (by rw [oerrL_two, if_pos hx]; exact hy) hz _ _ (Qt.bd_InR (by omega) F.quoB) (Qt.bd_InR (by omega) F.drB) (divide_hz _ _ hx3 hy3 (by omega) (by omega) h0)
end Go.Proofs.Ythajaabgcbjfkaa
