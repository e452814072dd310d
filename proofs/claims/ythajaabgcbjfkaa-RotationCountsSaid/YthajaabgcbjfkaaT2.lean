/- Contracts: Norm, Canonical, Content, IsHurwitz of the program; Over and Content of the reference. -/
import Derived.Test.YthajaabgcbjfkaaT1
import Derived.Test.YthajaabgcbjfkaaB6
namespace Go.Proofs.Ythajaabgcbjfkaa
open Go.RowKit
attribute [local go_sem ↓] Go.wp_at_zero Go.wp_at_succ

set_option maxRecDepth 10000 in
set_option maxHeartbeats 2000000 in
theorem pnorm_err (x : Qd) (w : World) (hx : x.oerr ≠ 0) :
    Calls Try.prog 36 #[.agg #[.int .i64 x.w, .int .i64 x.x, .int .i64 x.y, .int .i64 x.z, .int .i64 x.d]] w fun e w' => e = .returned (.tuple #[.int .i64 0, .int .i64 x.oerr]) ∧ Below w.heap.size w w' := by
  have h : oerrL [x] ≠ 0 := by rw [oerrL_one]; exact hx
  rw [← oerrL_one]
  go_enter Try.func36, Try.ntmps36
  go_wp2_with (first | (go_at_call 64; with_reducible refine (open_err1 x _ h (by simp)).mono ?_; rintro e w1 ⟨rfl, hb1⟩; obtain ⟨g1, rfl⟩ := more_of_below hb1; clear hb1))
  refine bodyPost_ret (v := .tuple #[.int .i64 0, .int .i64 (oerrL [x])]) (by simp [results, Try.results36, go_sem]) rfl ⟨rfl, by (repeat (first | with_reducible assumption | with_reducible exact Below.refl _ _ | with_reducible refine Below.drewN ?_ _ | with_reducible refine Below.drew ?_ | with_reducible refine Below.alloc ?_ (by first | omega | (simp; done) | (simp; omega)) _ | with_reducible refine Below.setCell ?_ (by first | omega | (simp; done) | (simp; omega)) _ | with_reducible refine below_more _ _ ?_ (by first | omega | (simp; done) | (simp; omega))))⟩
set_option maxRecDepth 10000 in
set_option maxHeartbeats 2000000 in
theorem pcanon_err (x : Qd) (w : World) (hx : x.oerr ≠ 0) :
    Calls Try.prog 40 #[.agg #[.int .i64 x.w, .int .i64 x.x, .int .i64 x.y, .int .i64 x.z, .int .i64 x.d]] w fun e w' => e = .returned (.tuple #[.agg #[.int .i64 0, .int .i64 0, .int .i64 0, .int .i64 0, .int .i64 0], .int .i64 x.oerr]) ∧ Below w.heap.size w w' := by
  have h : oerrL [x] ≠ 0 := by rw [oerrL_one]; exact hx
  rw [← oerrL_one]
  go_enter Try.func40, Try.ntmps40
  go_wp2_with (first | (go_at_call 64; with_reducible refine (open_err1 x _ h (by simp)).mono ?_; rintro e w1 ⟨rfl, hb1⟩; obtain ⟨g1, rfl⟩ := more_of_below hb1; clear hb1))
  refine bodyPost_ret (v := .tuple #[.agg #[.int .i64 0, .int .i64 0, .int .i64 0, .int .i64 0, .int .i64 0], .int .i64 (oerrL [x])]) (by simp [results, Try.results40, go_sem]) rfl ⟨rfl, by (repeat (first | with_reducible assumption | with_reducible exact Below.refl _ _ | with_reducible refine Below.drewN ?_ _ | with_reducible refine Below.drew ?_ | with_reducible refine Below.alloc ?_ (by first | omega | (simp; done) | (simp; omega)) _ | with_reducible refine Below.setCell ?_ (by first | omega | (simp; done) | (simp; omega)) _ | with_reducible refine below_more _ _ ?_ (by first | omega | (simp; done) | (simp; omega))))⟩
set_option maxRecDepth 10000 in
set_option maxHeartbeats 2000000 in
theorem pcontent_err (x : Qd) (w : World) (hx : x.oerr ≠ 0) :
    Calls Try.prog 41 #[.agg #[.int .i64 x.w, .int .i64 x.x, .int .i64 x.y, .int .i64 x.z, .int .i64 x.d]] w fun e w' => e = .returned (.tuple #[.int .i64 0, .int .i64 x.oerr]) ∧ Below w.heap.size w w' := by
  have h : oerrL [x] ≠ 0 := by rw [oerrL_one]; exact hx
  rw [← oerrL_one]
  go_enter Try.func41, Try.ntmps41
  go_wp2_with (first | (go_at_call 64; with_reducible refine (open_err1 x _ h (by simp)).mono ?_; rintro e w1 ⟨rfl, hb1⟩; obtain ⟨g1, rfl⟩ := more_of_below hb1; clear hb1))
  refine bodyPost_ret (v := .tuple #[.int .i64 0, .int .i64 (oerrL [x])]) (by simp [results, Try.results41, go_sem]) rfl ⟨rfl, by (repeat (first | with_reducible assumption | with_reducible exact Below.refl _ _ | with_reducible refine Below.drewN ?_ _ | with_reducible refine Below.drew ?_ | with_reducible refine Below.alloc ?_ (by first | omega | (simp; done) | (simp; omega)) _ | with_reducible refine Below.setCell ?_ (by first | omega | (simp; done) | (simp; omega)) _ | with_reducible refine below_more _ _ ?_ (by first | omega | (simp; done) | (simp; omega))))⟩
set_option maxRecDepth 10000 in
set_option maxHeartbeats 2000000 in
theorem pcanon_ok (x : Qd) (w : World) (hx : x.oerr = 0) :
    Calls Try.prog 40 #[.agg #[.int .i64 x.w, .int .i64 x.x, .int .i64 x.y, .int .i64 x.z, .int .i64 x.d]] w fun e w' => e = .returned (.tuple #[.agg #[.int .i64 ((canon x.rdv).toQ).w, .int .i64 ((canon x.rdv).toQ).x, .int .i64 ((canon x.rdv).toQ).y, .int .i64 ((canon x.rdv).toQ).z, .int .i64 ((canon x.rdv).toQ).d], .int .i64 0]) ∧ Below w.heap.size w w' := by
  have h : oerrL [x] = 0 := by rw [oerrL_one]; exact hx
  obtain ⟨_, _, hx3, hx4⟩ := Opn.of hx
  have CC := Lib.hid (fun w => canonical_hz x.rdv (by omega) w)
  have CQ := Lib.hid (fun w => quat_in (canon x.rdv) (Qt.inR_of_nrm (by rw [canon_nrm hx3]; omega)) w)
  have HO := Lib.hid (fun W m hm => open_ok1 x W h (m := m) hm)
  generalize canon x.rdv = C at *
  generalize C.toQ = Q at *
  generalize x.rdv = X at *
  clear hx hx3 hx4 h
  go_enter Try.func40, Try.ntmps40
  go_wp2_with (first | (go_at_call 64; refine (HO.out _ _ (by simp)).mono ?_; rintro e w1 ⟨g, cap, rfl, ⟨hg, ⟨c0, c1, c2, c3⟩⟩, hb1⟩; obtain ⟨g1, rfl⟩ := more_of_below hb1; clear hb1; simp only [size_more_eq, World.size_alloc] at hg) | (go_at_call 85; with_reducible refine (CC.out _).mono ?_; rintro e w2 ⟨rfl, hb2⟩; obtain ⟨g2, rfl⟩ := more_of_below hb2; clear hb2) | (go_at_call 67; with_reducible refine (CQ.out _).mono ?_; rintro e w3 ⟨rfl, hb3⟩; obtain ⟨g3, rfl⟩ := more_of_below hb3; clear hb3))
  refine bodyPost_ret (v := .tuple #[.agg #[.int .i64 Q.w, .int .i64 Q.x, .int .i64 Q.y, .int .i64 Q.z, .int .i64 Q.d], .int .i64 0]) (by simp [results, Try.results40, go_sem]) rfl ⟨rfl, by (repeat (first | with_reducible assumption | with_reducible exact Below.refl _ _ | with_reducible refine Below.drewN ?_ _ | with_reducible refine Below.drew ?_ | with_reducible refine Below.alloc ?_ (by first | omega | (simp; done) | (simp; omega)) _ | with_reducible refine Below.setCell ?_ (by first | omega | (simp; done) | (simp; omega)) _ | with_reducible refine below_more _ _ ?_ (by first | omega | (simp; done) | (simp; omega))))⟩

set_option maxRecDepth 10000 in
set_option maxHeartbeats 2000000 in
/-- The content, as the program finds it. -/
theorem content_in (x : Qt) (h : Qt.Bd 4000000 x) (h0 : 1 ≤ x.gq) (w : World) :
    Calls Try.prog 86 #[.agg #[.int .i64 x.w, .int .i64 x.x, .int .i64 x.y, .int .i64 x.z]] w fun e w' => e = .returned (.int .i64 x.ctn) ∧ Below w.heap.size w w' := by
  have hle := (Qt.gq_le (by omega) h).2
  have hr : x.ctn = if (x.over x.gq).evb then x.gq / 2 else x.gq := rfl
  obtain ⟨⟨i0, i1⟩, ⟨i2, i3⟩, ⟨i4, i5⟩, ⟨i6, i7⟩⟩ := h
  have hG : ∀ w b cap, b < w.heap.size → w.cell? ⟨b, 0, none⟩ = some (.int .i64 x.w) → w.cell? ⟨b, 1, none⟩ = some (.int .i64 x.x) → w.cell? ⟨b, 2, none⟩ = some (.int .i64 x.y) → w.cell? ⟨b, 3, none⟩ = some (.int .i64 x.z) →
      Calls Try.prog 81 #[.slice (some ⟨b, 0, none⟩) 4 cap] w fun e w' => e = .returned (.int .i64 x.gq) ∧ Below w.heap.size w w' :=
    fun w b cap hb c0 c1 c2 c3 => gcd4_in b cap x.w x.x x.y x.z w hb c0 c1 c2 c3 (by omega) (by omega) (by omega) (by omega)
  generalize x.ctn = r at *
  have HR : Hid (r = if (((x.w.tdiv x.gq).tmod 2 == 0) || (((x.x.tdiv x.gq).tmod 2 == 0) || (((x.y.tdiv x.gq).tmod 2 == 0) || ((x.z.tdiv x.gq).tmod 2 == 0)))) then x.gq / 2 else x.gq) := Lib.hid hr
  generalize x.gq = g at *
  have b0 := Qt.tdiv_bd x.w g 4000000 (by omega) h0 (by omega)
  have b1 := Qt.tdiv_bd x.x g 4000000 (by omega) h0 (by omega)
  have b2 := Qt.tdiv_bd x.y g 4000000 (by omega) h0 (by omega)
  have b3 := Qt.tdiv_bd x.z g 4000000 (by omega) h0 (by omega)
  have HG := Lib.hid hG
  have g0 : ¬ g = 0 := by omega
  clear hr hG
  have k0 : ∀ (x y z t : Int) (w : World), (Instr.index 94 (.agg #[.int .i64 x, .int .i64 y, .int .i64 z, .int .i64 t]) (.int .i64 0)).run Try.prog w = .ok (.int .i64 x) w := fun _ _ _ _ _ => by kernel_rfl
  have k1 : ∀ (x y z t : Int) (w : World), (Instr.index 94 (.agg #[.int .i64 x, .int .i64 y, .int .i64 z, .int .i64 t]) (.int .i64 1)).run Try.prog w = .ok (.int .i64 y) w := fun _ _ _ _ _ => by kernel_rfl
  have k2 : ∀ (x y z t : Int) (w : World), (Instr.index 94 (.agg #[.int .i64 x, .int .i64 y, .int .i64 z, .int .i64 t]) (.int .i64 2)).run Try.prog w = .ok (.int .i64 z) w := fun _ _ _ _ _ => by kernel_rfl
  have k3 : ∀ (x y z t : Int) (w : World), (Instr.index 94 (.agg #[.int .i64 x, .int .i64 y, .int .i64 z, .int .i64 t]) (.int .i64 3)).run Try.prog w = .ok (.int .i64 t) w := fun _ _ _ _ _ => by kernel_rfl
  go_enter Try.func86, Try.ntmps86
  go_wp2_with (first | (go_at_call 81; refine (HG.out _ _ _ (by go_simp) (by go_simp) (by go_simp) (by go_simp) (by go_simp)).mono ?_; rintro e w1 ⟨rfl, hb1⟩; obtain ⟨g1, rfl⟩ := more_of_below hb1; clear hb1))
  clear HG
  refine wp_loop_rounds 5 ?_
  repeat any_goals (rw [rounds_succ]; go_wp2)
  all_goals (have hr := HR.out; clear HR; simp_all [go_sem])
  all_goals (go_ret; exact ⟨rfl, by (repeat (first | with_reducible assumption | with_reducible exact Below.refl _ _ | with_reducible refine Below.drewN ?_ _ | with_reducible refine Below.drew ?_ | with_reducible refine Below.alloc ?_ (by first | omega | (simp; done) | (simp; omega)) _ | with_reducible refine Below.setCell ?_ (by first | omega | (simp; done) | (simp; omega)) _ | with_reducible refine below_more _ _ ?_ (by first | omega | (simp; done) | (simp; omega))))⟩)

set_option maxRecDepth 10000 in
set_option maxHeartbeats 2000000 in
theorem pcontent_zero (x : Qd) (w : World) (hx : x.oerr = 0) (hz : x.rdv.eqb ⟨0, 0, 0, 0⟩ = true) :
    Calls Try.prog 41 #[.agg #[.int .i64 x.w, .int .i64 x.x, .int .i64 x.y, .int .i64 x.z, .int .i64 x.d]] w fun e w' => e = .returned (.tuple #[.int .i64 0, .int .i64 10]) ∧ Below w.heap.size w w' := by
  have h : oerrL [x] = 0 := by rw [oerrL_one]; exact hx
  have CZ := Lib.hid (fun w => hzero_any x.rdv w)
  rw [hz] at CZ
  have HO := Lib.hid (fun W m hm => open_ok1 x W h (m := m) hm)
  generalize x.rdv = X at *
  clear hx h hz
  go_enter Try.func41, Try.ntmps41
  go_wp2_with (first | (go_at_call 64; refine (HO.out _ _ (by simp)).mono ?_; rintro e w1 ⟨g, cap, rfl, ⟨hg, ⟨c0, c1, c2, c3⟩⟩, hb1⟩; obtain ⟨g1, rfl⟩ := more_of_below hb1; clear hb1; simp only [size_more_eq, World.size_alloc] at hg) | (go_at_call 65; with_reducible refine (CZ.out _).mono ?_; rintro e w2 ⟨rfl, hb2⟩; obtain ⟨g2, rfl⟩ := more_of_below hb2; clear hb2))
  refine bodyPost_ret (v := .tuple #[.int .i64 0, .int .i64 10]) (by simp [results, Try.results41, go_sem]) rfl ⟨rfl, by (repeat (first | with_reducible assumption | with_reducible exact Below.refl _ _ | with_reducible refine Below.drewN ?_ _ | with_reducible refine Below.drew ?_ | with_reducible refine Below.alloc ?_ (by first | omega | (simp; done) | (simp; omega)) _ | with_reducible refine Below.setCell ?_ (by first | omega | (simp; done) | (simp; omega)) _ | with_reducible refine below_more _ _ ?_ (by first | omega | (simp; done) | (simp; omega))))⟩
set_option maxRecDepth 10000 in
set_option maxHeartbeats 2000000 in
theorem pcontent_ok (x : Qd) (w : World) (hx : x.oerr = 0) (hz : x.rdv.eqb ⟨0, 0, 0, 0⟩ = false) :
    Calls Try.prog 41 #[.agg #[.int .i64 x.w, .int .i64 x.x, .int .i64 x.y, .int .i64 x.z, .int .i64 x.d]] w fun e w' => e = .returned (.tuple #[.int .i64 x.rdv.ctn, .int .i64 0]) ∧ Below w.heap.size w w' := by
  have h : oerrL [x] = 0 := by rw [oerrL_one]; exact hx
  obtain ⟨_, _, hx3, hx4⟩ := Opn.of hx
  have CZ := Lib.hid (fun w => hzero_any x.rdv w)
  have CC := Lib.hid (fun w => content_in x.rdv (Qt.bd_of_nrm (by omega) (by omega)) (g4_pos hz) w)
  rw [hz] at CZ
  have HO := Lib.hid (fun W m hm => open_ok1 x W h (m := m) hm)
  generalize x.rdv.ctn = C at *
  generalize x.rdv = X at *
  clear hx h hz hx3 hx4
  go_enter Try.func41, Try.ntmps41
  go_wp2_with (first | (go_at_call 64; refine (HO.out _ _ (by simp)).mono ?_; rintro e w1 ⟨g, cap, rfl, ⟨hg, ⟨c0, c1, c2, c3⟩⟩, hb1⟩; obtain ⟨g1, rfl⟩ := more_of_below hb1; clear hb1; simp only [size_more_eq, World.size_alloc] at hg) | (go_at_call 65; with_reducible refine (CZ.out _).mono ?_; rintro e w2 ⟨rfl, hb2⟩; obtain ⟨g2, rfl⟩ := more_of_below hb2; clear hb2) | (go_at_call 86; with_reducible refine (CC.out _).mono ?_; rintro e w3 ⟨rfl, hb3⟩; obtain ⟨g3, rfl⟩ := more_of_below hb3; clear hb3))
  refine bodyPost_ret (v := .tuple #[.int .i64 C, .int .i64 0]) (by simp [results, Try.results41, go_sem]) rfl ⟨rfl, by (repeat (first | with_reducible assumption | with_reducible exact Below.refl _ _ | with_reducible refine Below.drewN ?_ _ | with_reducible refine Below.drew ?_ | with_reducible refine Below.alloc ?_ (by first | omega | (simp; done) | (simp; omega)) _ | with_reducible refine Below.setCell ?_ (by first | omega | (simp; done) | (simp; omega)) _ | with_reducible refine below_more _ _ ?_ (by first | omega | (simp; done) | (simp; omega))))⟩

set_option maxRecDepth 10000 in
set_option maxHeartbeats 2000000 in
theorem ishur_any (x : Qd) (w : World) :
    Calls Try.prog 42 #[.agg #[.int .i64 x.w, .int .i64 x.x, .int .i64 x.y, .int .i64 x.z, .int .i64 x.d]] w fun e w' => e = .returned (.bool (x.okb && x.rdok)) ∧ Below w.heap.size w w' := by
  have CQ := Lib.hid (fun w => checkQuat_any x w)
  cases hk : x.okb
  · have e3 : x.err = 3 := by unfold Qd.err; rw [hk]; rfl
    rw [e3] at CQ
    rw [Bool.false_and]
    clear hk e3
    go_enter Try.func42, Try.ntmps42
    go_wp2_with (first | (go_at_call 87; with_reducible refine (CQ.out _).mono ?_; rintro e w1 ⟨rfl, hb1⟩; obtain ⟨g1, rfl⟩ := more_of_below hb1; clear hb1))
    go_ret
    exact ⟨rfl, by (repeat (first | with_reducible assumption | with_reducible exact Below.refl _ _ | with_reducible refine Below.drewN ?_ _ | with_reducible refine Below.drew ?_ | with_reducible refine Below.alloc ?_ (by first | omega | (simp; done) | (simp; omega)) _ | with_reducible refine Below.setCell ?_ (by first | omega | (simp; done) | (simp; omega)) _ | with_reducible refine below_more _ _ ?_ (by first | omega | (simp; done) | (simp; omega))))⟩
  · have e3 : x.err = 0 := by unfold Qd.err; rw [hk]; rfl
    rw [e3] at CQ
    rw [Bool.true_and]
    have CR := Lib.hid (fun w => read_any x w hk)
    generalize x.rdok = b at *
    generalize (if b = true then x.rdv.w else 0) = r0 at *
    generalize (if b = true then x.rdv.x else 0) = r1 at *
    generalize (if b = true then x.rdv.y else 0) = r2 at *
    generalize (if b = true then x.rdv.z else 0) = r3 at *
    clear hk e3
    go_enter Try.func42, Try.ntmps42
    go_wp2_with (first | (go_at_call 87; with_reducible refine (CQ.out _).mono ?_; rintro e w1 ⟨rfl, hb1⟩; obtain ⟨g1, rfl⟩ := more_of_below hb1; clear hb1) | (go_at_call 88; with_reducible refine (CR.out _).mono ?_; rintro e w2 ⟨rfl, hb2⟩; obtain ⟨g2, rfl⟩ := more_of_below hb2; clear hb2))
    go_ret
    exact ⟨rfl, by (repeat (first | with_reducible assumption | with_reducible exact Below.refl _ _ | with_reducible refine Below.drewN ?_ _ | with_reducible refine Below.drew ?_ | with_reducible refine Below.alloc ?_ (by first | omega | (simp; done) | (simp; omega)) _ | with_reducible refine Below.setCell ?_ (by first | omega | (simp; done) | (simp; omega)) _ | with_reducible refine below_more _ _ ?_ (by first | omega | (simp; done) | (simp; omega))))⟩

set_option maxRecDepth 10000 in
set_option maxHeartbeats 4000000 in
/-- Over, of numbers that are not too large. -/
theorem rover_any (h : Qt) (m : Int) (hm : 1 ≤ m) (hm2 : m ≤ 4000000) (hi : Qt.Bd 4000000 h) (w : World) :
    Calls Try.prog 77 #[.agg #[.int .i64 h.w, .int .i64 h.x, .int .i64 h.y, .int .i64 h.z], .int .i64 m] w fun e w' => e = .returned (.tuple #[.agg #[.int .i64 ((if h.ovok m then h.w.tdiv m else 0)), .int .i64 ((if h.ovok m then h.x.tdiv m else 0)), .int .i64 ((if h.ovok m then h.y.tdiv m else 0)), .int .i64 ((if h.ovok m then h.z.tdiv m else 0))], .bool (h.ovok m)]) ∧ Below w.heap.size w w' := by
  obtain ⟨⟨i0, i1⟩, ⟨i2, i3⟩, ⟨i4, i5⟩, ⟨i6, i7⟩⟩ := hi
  obtain ⟨b0, b1⟩ := Qt.tdiv_bd h.w m 4000000 (by omega) hm (by omega)
  obtain ⟨b2, b3⟩ := Qt.tdiv_bd h.x m 4000000 (by omega) hm (by omega)
  obtain ⟨b4, b5⟩ := Qt.tdiv_bd h.y m 4000000 (by omega) hm (by omega)
  obtain ⟨b6, b7⟩ := Qt.tdiv_bd h.z m 4000000 (by omega) hm (by omega)
  have m0 : ¬ m = 0 := by omega
  have eS : h.w.tdiv m - h.w.tdiv m = 0 := by omega
  generalize hok : h.ovok m = ok
  unfold Qt.ovok at hok
  have HK := Lib.hid hok
  clear hok
  generalize hr0 : (if ok = true then h.w.tdiv m else 0) = r0
  generalize hr1 : (if ok = true then h.x.tdiv m else 0) = r1
  generalize hr2 : (if ok = true then h.y.tdiv m else 0) = r2
  generalize hr3 : (if ok = true then h.z.tdiv m else 0) = r3
  have H0 := Lib.hid hr0
  have H1 := Lib.hid hr1
  have H2 := Lib.hid hr2
  have H3 := Lib.hid hr3
  clear hr0 hr1 hr2 hr3
  go_enter Try.func77, Try.ntmps77
  go_wp2
  refine wp_loop_rounds 5 ?_
  repeat any_goals (rw [rounds_succ]; go_wp2_with fail; (all_goals (try ((refine wp_region_quiet (C := Ext _) (by kernel_rfl) (by kernel_rfl) (Ext.start _) ?_; simp only []; (repeat (refine wpQuiet_step (fun K hK => ?_); go_simp; (try go_bits); apply Exists.intro; refine ⟨fun w' hw' => ?_, hK _ ?_⟩; (focus (first | with_reducible exact rfl | (go_at_call 114; (exact Ext.call hw' (Calls.mono (rmod_in _ _ (by omega) (by omega) (by omega) (by omega) _) same_below))) | (obtain ⟨gx, rfl⟩ := more_of_below (Ext.below hw'); go_simp; exact rfl))); clear hK K)); refine wpQuiet_nil ?_; intro w1 hw1; have hb1 := Ext.below hw1; clear hw1; obtain ⟨g1, rfl⟩ := more_of_below hb1; clear hb1)))); (all_goals go_wp2))
  all_goals (have hk := HK.out; have h0 := H0.out; have h1 := H1.out; have h2 := H2.out; have h3 := H3.out)
  all_goals (clear HK H0 H1 H2 H3)
  all_goals (simp only [*, Bool.not_true, Bool.not_false, Bool.false_and, Bool.true_and] at hk)
  all_goals (subst hk; simp only [Bool.false_eq_true, if_false, if_true] at h0 h1 h2 h3; subst h0; subst h1; subst h2; subst h3)
  all_goals (refine bodyPost_ret (v := .tuple #[.agg #[.int .i64 _, .int .i64 _, .int .i64 _, .int .i64 _], .bool _]) (by simp [results, Try.results77, go_sem]; done) rfl ⟨rfl, ?_⟩)
  all_goals ((repeat (first | with_reducible assumption | with_reducible exact Below.refl _ _ | with_reducible refine Below.drewN ?_ _ | with_reducible refine Below.drew ?_ | with_reducible refine Below.alloc ?_ (by first | omega | (simp; done) | (simp; omega)) _ | with_reducible refine Below.setCell ?_ (by first | omega | (simp; done) | (simp; omega)) _ | with_reducible refine below_more _ _ ?_ (by first | omega | (simp; done) | (simp; omega)))))

set_option maxRecDepth 10000 in
set_option maxHeartbeats 4000000 in
/-- The content, as the reference finds it. -/
theorem rcontent_walk (h : Qt) (x0 x1 g c : Int) (hg1 : 1 ≤ g) (hg2 : g ≤ 4000000) (hc1 : 1 ≤ c) (hc2 : c ≤ g)
    (g0 : ∀ w, Calls Try.prog 38 #[.int .i64 h.w, .int .i64 h.x] w fun e w' => e = .returned (.int .i64 x0) ∧ Below w.heap.size w w')
    (gg1 : ∀ w, Calls Try.prog 38 #[.int .i64 h.y, .int .i64 h.z] w fun e w' => e = .returned (.int .i64 x1) ∧ Below w.heap.size w w')
    (gg2 : ∀ w, Calls Try.prog 38 #[.int .i64 x0, .int .i64 x1] w fun e w' => e = .returned (.int .i64 g) ∧ Below w.heap.size w w')
    (no : ∀ m, c < m → m ≤ g → ∀ w, Calls Try.prog 77 #[.agg #[.int .i64 h.w, .int .i64 h.x, .int .i64 h.y, .int .i64 h.z], .int .i64 m] w fun e w' => e = .returned (.tuple #[.agg #[.int .i64 0, .int .i64 0, .int .i64 0, .int .i64 0], .bool false]) ∧ Below w.heap.size w w')
    (q : Qt) (yes : ∀ w, Calls Try.prog 77 #[.agg #[.int .i64 h.w, .int .i64 h.x, .int .i64 h.y, .int .i64 h.z], .int .i64 c] w fun e w' => e = .returned (.tuple #[.agg #[.int .i64 q.w, .int .i64 q.x, .int .i64 q.y, .int .i64 q.z], .bool true]) ∧ Below w.heap.size w w') (w : World) :
    Calls Try.prog 44 #[.agg #[.int .i64 h.w, .int .i64 h.x, .int .i64 h.y, .int .i64 h.z]] w fun e w' => e = .returned (.int .i64 c) ∧ Below w.heap.size w w' := by
  have G0 := Lib.hid g0; have G1 := Lib.hid gg1; have G2 := Lib.hid gg2; have NO := Lib.hid no; have YES := Lib.hid yes
  clear g0 gg1 gg2 no yes
  go_enter Try.func44, Try.ntmps44
  go_wp2_with fail
  (refine wp_region_calm_tail 11 (Ext _) (by kernel_rfl) (by kernel_rfl) (Ext.start _) ?_; simp only [List.take_succ_cons, List.take_zero, List.drop_succ_cons, List.drop_zero]; (repeat (refine wpQuiet_step (fun K hK => ?_); go_simp; (try go_bits); apply Exists.intro; refine ⟨fun w' hw' => ?_, hK _ ?_⟩; (focus (first | with_reducible exact rfl | (go_at_call 38; (first | with_reducible exact Ext.call hw' (G0.out _) | with_reducible exact Ext.call hw' (G1.out _) | with_reducible exact Ext.call hw' (G2.out _))) | (obtain ⟨gx, rfl⟩ := more_of_below (Ext.below hw'); go_simp; exact rfl))); clear hK K)); refine wpQuiet_nil ?_; intro w1 hw1; have hb1 := Ext.below hw1; clear hw1; obtain ⟨g1, rfl⟩ := more_of_below hb1; clear hb1)
  clear G0 G1 G2
  go_wp2_with fail
  go_loopw [4] (fun u wr => ∃ m : Int, u = .int .i64 m ∧ c ≤ m ∧ m ≤ g ∧ ∃ gg, wr = more (w.alloc (.cells #[.int .i64 h.w, .int .i64 h.x, .int .i64 h.y, .int .i64 h.z] 32)) gg) (fun u _ => (intOf u).toNat)
  case atStart => exact ⟨g, rfl, hc2, Int.le_refl _, _, rfl⟩
  case round =>
    obtain ⟨m, rfl, hm1, hm2, gx, rfl⟩ := hrel
    by_cases e : m = c
    · subst e
      by_cases h1 : m = 1
      · have hlt : ¬ 1 < m := by omega
        subst h1
        go_wp2_with fail
        go_ret
        exact ⟨rfl, by (repeat (first | with_reducible assumption | with_reducible exact Below.refl _ _ | with_reducible refine Below.drewN ?_ _ | with_reducible refine Below.drew ?_ | with_reducible refine Below.alloc ?_ (by first | omega | (simp; done) | (simp; omega)) _ | with_reducible refine Below.setCell ?_ (by first | omega | (simp; done) | (simp; omega)) _ | with_reducible refine below_more _ _ ?_ (by first | omega | (simp; done) | (simp; omega))))⟩
      · have hlt : 1 < m := by omega
        go_wp2_with (first | (go_at_call 77; with_reducible refine (YES.out _).mono ?_; rintro e w2 ⟨rfl, hb2⟩; obtain ⟨g2, rfl⟩ := more_of_below hb2; clear hb2))
        go_ret
        exact ⟨rfl, by (repeat (first | with_reducible assumption | with_reducible exact Below.refl _ _ | with_reducible refine Below.drewN ?_ _ | with_reducible refine Below.drew ?_ | with_reducible refine Below.alloc ?_ (by first | omega | (simp; done) | (simp; omega)) _ | with_reducible refine Below.setCell ?_ (by first | omega | (simp; done) | (simp; omega)) _ | with_reducible refine below_more _ _ ?_ (by first | omega | (simp; done) | (simp; omega))))⟩
    · have hlt : 1 < m := by omega
      have hgt : c ≤ m - 1 := by omega
      have CN := Lib.hid (NO.out m (by omega) hm2)
      clear e
      go_wp2_with (first | (go_at_call 77; with_reducible refine (CN.out _).mono ?_; rintro e w2 ⟨rfl, hb2⟩; obtain ⟨g2, rfl⟩ := more_of_below hb2; clear hb2))
      all_goals go_roundw
      case rel => exact ⟨m - 1, by go_num, hgt, by omega, more_of_below (by (repeat (first | with_reducible assumption | with_reducible exact Below.refl _ _ | with_reducible refine Below.drewN ?_ _ | with_reducible refine Below.drew ?_ | with_reducible refine Below.alloc ?_ (by first | omega | (simp; done) | (simp; omega)) _ | with_reducible refine Below.setCell ?_ (by first | omega | (simp; done) | (simp; omega)) _ | with_reducible refine below_more _ _ ?_ (by first | omega | (simp; done) | (simp; omega)))))⟩
      case measure => simp [intOf]; omega
theorem rcontent_hz (h : Qt) (hh : Qt.Hz h) (h0 : h.eqb ⟨0, 0, 0, 0⟩ = false) (hi : Qt.Bd 4000000 h) (w : World) :
    Calls Try.prog 44 #[.agg #[.int .i64 h.w, .int .i64 h.x, .int .i64 h.y, .int .i64 h.z]] w fun e w' => e = .returned (.int .i64 h.ctn) ∧ Below w.heap.size w w' := by
  obtain ⟨c1, c2, c3, c4⟩ := Qt.ctn_spec hh h0
  have hgl := (Qt.gq_le (by omega) hi).2
  have hi' := hi
  obtain ⟨⟨i0, i1⟩, ⟨i2, i3⟩, ⟨i4, i5⟩, ⟨i6, i7⟩⟩ := hi'
  have n0 : N4 h.w := by unfold N4; omega
  have n1 : N4 h.x := by unfold N4; omega
  have n2 : N4 h.y := by unfold N4; omega
  have n3 : N4 h.z := by unfold N4; omega
  have gg := bgcd_4 _ _ (igcd_4 _ _ n0 n1) (igcd_4 _ _ n2 n3)
  rw [Qt.gq_igcd] at gg
  refine rcontent_walk h _ _ h.gq h.ctn (g4_pos h0) hgl c1 c2 (bgcd_4 _ _ n0 n1) (bgcd_4 _ _ n2 n3) gg (fun m h1 h2 w => ?_) (h.over h.ctn) (fun w => ?_) w
  · have := rover_any h m (by omega) (by omega) hi w
    rw [c4 m h1 h2] at this
    exact this
  · have := rover_any h h.ctn (by omega) (by omega) hi w
    rw [c3] at this
    exact this
end Go.Proofs.Ythajaabgcbjfkaa
