/- Contracts: reduced, turn. -/
import Derived.Test.YthajaabgcbjfkaaG1
import Derived.Test.YthajaabgcbjfkaaE2
namespace Go.Proofs.Ythajaabgcbjfkaa
open Go.RowKit

/-- The common divisor of four numbers. -/
def g4 (a b c d : Int) : Int := ((gcdL [a, b, c, d] : Nat) : Int)
theorem gcd4_in (b : Nat) (cap : Nat) (n0 n1 n2 n3 : Int) (w : World) (hb : b < w.heap.size)
    (c0 : w.cell? ⟨b, 0, none⟩ = some (.int .i64 n0)) (c1 : w.cell? ⟨b, 1, none⟩ = some (.int .i64 n1)) (c2 : w.cell? ⟨b, 2, none⟩ = some (.int .i64 n2)) (c3 : w.cell? ⟨b, 3, none⟩ = some (.int .i64 n3))
    (b0 : n0.natAbs ≤ 4000000000000000000) (b1 : n1.natAbs ≤ 4000000000000000000) (b2 : n2.natAbs ≤ 4000000000000000000) (b3 : n3.natAbs ≤ 4000000000000000000) :
    Calls Try.prog 81 #[.slice (some ⟨b, 0, none⟩) 4 cap] w fun e w' => e = .returned (.int .i64 (g4 n0 n1 n2 n3)) ∧ Below w.heap.size w w' := by
  refine gcd_any [n0, n1, n2, n3] b 0 cap w (by simp) (fun k x hx => ?_) hb (fun x hx => ?_)
  · rw [Nat.zero_add]
    match k with
    | 0 => simp only [List.getElem?_cons_zero, Option.some.injEq] at hx; subst hx; exact c0
    | 1 => simp only [List.getElem?_cons_succ, List.getElem?_cons_zero, Option.some.injEq] at hx; subst hx; exact c1
    | 2 => simp only [List.getElem?_cons_succ, List.getElem?_cons_zero, Option.some.injEq] at hx; subst hx; exact c2
    | 3 => simp only [List.getElem?_cons_succ, List.getElem?_cons_zero, Option.some.injEq] at hx; subst hx; exact c3
    | k + 4 => simp at hx
  · simp only [List.mem_cons, List.not_mem_nil, or_false] at hx
    rcases hx with rfl | rfl | rfl | rfl <;> assumption

def Qt.neg (a : Qt) : Qt := ⟨-a.w, -a.x, -a.y, -a.z⟩
/-- The first number other than 0 is negative. -/
def Qt.negb (a : Qt) : Bool := decide (a.w < 0) || (decide (a.w = 0) && (decide (a.x < 0) || (decide (a.x = 0) && (decide (a.y < 0) || (decide (a.y = 0) && decide (a.z < 0))))))
def Qt.red (a : Qt) : Qt := if (a.over (g4 a.w a.x a.y a.z)).negb then (a.over (g4 a.w a.x a.y a.z)).neg else a.over (g4 a.w a.x a.y a.z)

set_option maxRecDepth 10000 in
set_option maxHeartbeats 2000000 in
theorem reduced_in (a : Qt) (h : a.InR) (h0 : 1 ≤ g4 a.w a.x a.y a.z) (w : World) :
    Calls Try.prog 93 #[.agg #[.int .i64 a.w, .int .i64 a.x, .int .i64 a.y, .int .i64 a.z]] w fun e w' => e = .returned (.agg #[.int .i64 a.red.w, .int .i64 a.red.x, .int .i64 a.red.y, .int .i64 a.red.z]) ∧ Below w.heap.size w w' := by
  have hO := fun w => over_in a (g4 a.w a.x a.y a.z) w h0 h
  have hb := Qt.over_InR h h0
  have hr : a.red = if (a.over (g4 a.w a.x a.y a.z)).negb then (a.over (g4 a.w a.x a.y a.z)).neg else a.over (g4 a.w a.x a.y a.z) := rfl
  obtain ⟨⟨i0, i1⟩, ⟨i2, i3⟩, ⟨i4, i5⟩, ⟨i6, i7⟩⟩ := h
  have hG : ∀ w b cap, b < w.heap.size → w.cell? ⟨b, 0, none⟩ = some (.int .i64 a.w) → w.cell? ⟨b, 1, none⟩ = some (.int .i64 a.x) → w.cell? ⟨b, 2, none⟩ = some (.int .i64 a.y) → w.cell? ⟨b, 3, none⟩ = some (.int .i64 a.z) →
      Calls Try.prog 81 #[.slice (some ⟨b, 0, none⟩) 4 cap] w fun e w' => e = .returned (.int .i64 (g4 a.w a.x a.y a.z)) ∧ Below w.heap.size w w' :=
    fun w b cap hb c0 c1 c2 c3 => gcd4_in b cap a.w a.x a.y a.z w hb c0 c1 c2 c3 (by omega) (by omega) (by omega) (by omega)
  generalize a.red = r at *
  generalize a.over (g4 a.w a.x a.y a.z) = b at *
  generalize g4 a.w a.x a.y a.z = g at *
  obtain ⟨⟨j0, j1⟩, ⟨j2, j3⟩, ⟨j4, j5⟩, ⟨j6, j7⟩⟩ := hb
  have HR := Lib.hid hr
  have HO := Lib.hid hO
  have HG := Lib.hid hG
  clear hr hO hG
  have k0 : ∀ (x y z t : Int) (w : World), (Instr.index 94 (.agg #[.int .i64 x, .int .i64 y, .int .i64 z, .int .i64 t]) (.int .i64 0)).run Try.prog w = .ok (.int .i64 x) w := fun _ _ _ _ _ => by kernel_rfl
  have k1 : ∀ (x y z t : Int) (w : World), (Instr.index 94 (.agg #[.int .i64 x, .int .i64 y, .int .i64 z, .int .i64 t]) (.int .i64 1)).run Try.prog w = .ok (.int .i64 y) w := fun _ _ _ _ _ => by kernel_rfl
  have k2 : ∀ (x y z t : Int) (w : World), (Instr.index 94 (.agg #[.int .i64 x, .int .i64 y, .int .i64 z, .int .i64 t]) (.int .i64 2)).run Try.prog w = .ok (.int .i64 z) w := fun _ _ _ _ _ => by kernel_rfl
  have k3 : ∀ (x y z t : Int) (w : World), (Instr.index 94 (.agg #[.int .i64 x, .int .i64 y, .int .i64 z, .int .i64 t]) (.int .i64 3)).run Try.prog w = .ok (.int .i64 t) w := fun _ _ _ _ _ => by kernel_rfl
  go_enter Try.func93, Try.ntmps93
  go_wp2_with fail
  (refine wp_region_calm_tail 4 (Ext _) (by kernel_rfl) (by kernel_rfl) (Ext.start _) ?_; simp only [List.take_succ_cons, List.take_zero, List.drop_succ_cons, List.drop_zero]; (repeat (refine wpQuiet_step (fun K hK => ?_); go_simp; (try go_bits); apply Exists.intro; refine ⟨fun w' hw' => ?_, hK _ ?_⟩; (focus (first | with_reducible exact rfl | (go_at_call 81; (obtain ⟨gx, rfl⟩ := more_of_below (Ext.below hw'); refine Ext.call hw' (HG.out _ _ _ ?_ ?_ ?_ ?_ ?_) <;> go_simp)) | (go_at_call 113; (with_reducible exact Ext.call hw' (HO.out _))) | (obtain ⟨gx, rfl⟩ := more_of_below (Ext.below hw'); go_simp; exact rfl))); clear hK K)); refine wpQuiet_nil ?_; intro w1 hw1; have hb1 := Ext.below hw1; clear hw1; obtain ⟨g1, rfl⟩ := more_of_below hb1; clear hb1)
  clear HO HG
  go_wp2
  refine wp_loop_rounds 5 ?_
  repeat any_goals (rw [rounds_succ]; go_wp2)
  all_goals (first
    | (have hn : b.negb = true := (by simp only [Qt.negb, Bool.or_eq_true, Bool.and_eq_true, decide_eq_true_eq]; omega); have hr : r = b.neg := (by rw [HR.out, hn]; rfl); subst hr; refine bodyPost_ret (v := .agg #[.int .i64 b.neg.w, .int .i64 b.neg.x, .int .i64 b.neg.y, .int .i64 b.neg.z]) (by simp [results, Try.results93, go_sem, Qt.neg]) rfl ⟨rfl, ?_⟩)
    | (have hn : b.negb = false := (by simp only [Qt.negb, Bool.or_eq_false_iff, Bool.and_eq_false_iff, decide_eq_false_iff_not]; omega); obtain rfl : b = r := (by rw [HR.out, hn]; rfl); refine bodyPost_ret (v := .agg #[.int .i64 b.w, .int .i64 b.x, .int .i64 b.y, .int .i64 b.z]) (by simp [results, Try.results93, go_sem]) rfl ⟨rfl, ?_⟩))
  all_goals ((repeat (first | with_reducible assumption | with_reducible exact Below.refl _ _ | with_reducible refine Below.drewN ?_ _ | with_reducible refine Below.drew ?_ | with_reducible refine Below.alloc ?_ (by first | omega | (simp; done) | (simp; omega)) _ | with_reducible refine Below.setCell ?_ (by first | omega | (simp; done) | (simp; omega)) _ | with_reducible refine below_more _ _ ?_ (by first | omega | (simp; done) | (simp; omega)))))

theorem g4_pos {a : Qt} (h : a.eqb ⟨0, 0, 0, 0⟩ = false) : 1 ≤ g4 a.w a.x a.y a.z := by
  have h0 : 0 ≤ g4 a.w a.x a.y a.z := by unfold g4; omega
  apply Int.not_lt.1
  intro hc
  have hz : gcdL [a.w, a.x, a.y, a.z] = 0 := by unfold g4 at *; omega
  simp only [gcdL, List.foldl_cons, List.foldl_nil, Nat.gcd_eq_zero_iff, Int.natAbs_eq_zero] at hz
  obtain ⟨⟨⟨⟨_, h1⟩, h2⟩, h3⟩, h4⟩ := hz
  have : a = ⟨0, 0, 0, 0⟩ := Qt.ext' h1 h2 h3 h4
  rw [this] at h
  exact absurd h (by decide)
/-- The error of a rotation's quaternion. -/
def Qd.serr (q : Qd) : Int := if q.okb then (if q.num.eqb ⟨0, 0, 0, 0⟩ then 10 else 0) else 3
theorem Qd.serr_cases (q : Qd) : (q.okb = false ∧ q.serr = 3) ∨ (q.okb = true ∧ q.num.eqb ⟨0, 0, 0, 0⟩ = true ∧ q.serr = 10) ∨ (q.okb = true ∧ q.num.eqb ⟨0, 0, 0, 0⟩ = false ∧ q.serr = 0) := by
  cases h1 : q.okb
  · exact .inl ⟨rfl, by simp [serr, h1]⟩
  cases h2 : q.num.eqb ⟨0, 0, 0, 0⟩
  · exact .inr (.inr ⟨rfl, rfl, by simp [serr, h1, h2]⟩)
  · exact .inr (.inl ⟨rfl, rfl, by simp [serr, h1, h2]⟩)
theorem Qd.num_InR {q : Qd} (h : q.okb = true) : q.num.InR := by
  simp only [Qd.okb, decide_eq_true_eq] at h
  unfold Qt.InR Qd.num; simp only; omega

set_option maxRecDepth 10000 in
set_option maxHeartbeats 1000000 in
theorem turn_err (q : Qd) (h : q.serr ≠ 0) (w : World) :
    Calls Try.prog 91 #[.agg #[.int .i64 q.w, .int .i64 q.x, .int .i64 q.y, .int .i64 q.z, .int .i64 q.d]] w fun e w' => e = .returned (.tuple #[.agg #[.int .i64 0, .int .i64 0, .int .i64 0, .int .i64 0], .int .i64 q.serr]) ∧ Below w.heap.size w w' := by
  have c := checkQuat_any q
  rcases q.serr_cases with h' | h' | h'
  · rw [show q.err = 3 by simp [Qd.err, h'.1]] at c
    rw [h'.2]
    have C := Lib.hid c
    clear c h h'
    go_enter Try.func91, Try.ntmps91
    go_wp2_with (first | (go_at_call 87; with_reducible refine (C.out _).mono ?_; rintro e w1 ⟨rfl, hb1⟩; obtain ⟨g1, rfl⟩ := more_of_below hb1; clear hb1))
    refine bodyPost_ret (v := .tuple #[.agg #[.int .i64 0, .int .i64 0, .int .i64 0, .int .i64 0], .int .i64 3]) (by simp [results, Try.results91, go_sem]) rfl ⟨rfl, by (repeat (first | with_reducible assumption | with_reducible exact Below.refl _ _ | with_reducible refine Below.drewN ?_ _ | with_reducible refine Below.drew ?_ | with_reducible refine Below.alloc ?_ (by first | omega | (simp; done) | (simp; omega)) _ | with_reducible refine Below.setCell ?_ (by first | omega | (simp; done) | (simp; omega)) _ | with_reducible refine below_more _ _ ?_ (by first | omega | (simp; done) | (simp; omega))))⟩
  · rw [show q.err = 0 by simp [Qd.err, h'.1]] at c
    rw [h'.2.2]
    have C := Lib.hid c
    have hz := h'.2.1
    unfold Qd.num at hz
    clear c h h'
    go_enter Try.func91, Try.ntmps91
    go_wp2_with (first | (go_at_call 87; with_reducible refine (C.out _).mono ?_; rintro e w1 ⟨rfl, hb1⟩; obtain ⟨g1, rfl⟩ := more_of_below hb1; clear hb1))
    refine bodyPost_ret (v := .tuple #[.agg #[.int .i64 0, .int .i64 0, .int .i64 0, .int .i64 0], .int .i64 10]) (by simp [results, Try.results91, go_sem]) rfl ⟨rfl, by (repeat (first | with_reducible assumption | with_reducible exact Below.refl _ _ | with_reducible refine Below.drewN ?_ _ | with_reducible refine Below.drew ?_ | with_reducible refine Below.alloc ?_ (by first | omega | (simp; done) | (simp; omega)) _ | with_reducible refine Below.setCell ?_ (by first | omega | (simp; done) | (simp; omega)) _ | with_reducible refine below_more _ _ ?_ (by first | omega | (simp; done) | (simp; omega))))⟩
  · exact absurd h'.2.2 h
set_option maxRecDepth 10000 in
set_option maxHeartbeats 1000000 in
theorem turn_ok (q : Qd) (h : q.serr = 0) (w : World) :
    Calls Try.prog 91 #[.agg #[.int .i64 q.w, .int .i64 q.x, .int .i64 q.y, .int .i64 q.z, .int .i64 q.d]] w fun e w' => e = .returned (.tuple #[.agg #[.int .i64 q.num.red.w, .int .i64 q.num.red.x, .int .i64 q.num.red.y, .int .i64 q.num.red.z], .int .i64 0]) ∧ Below w.heap.size w w' := by
  have c := checkQuat_any q
  rcases q.serr_cases with h' | h' | h'
  · rw [h'.2] at h; exact absurd h (by decide)
  · rw [h'.2.2] at h; exact absurd h (by decide)
  · rw [show q.err = 0 by simp [Qd.err, h'.1]] at c
    have C := Lib.hid c
    have hz := h'.2.1
    have C2 := Lib.hid (reduced_in q.num (Qd.num_InR h'.1) (g4_pos hz))
    generalize hr : q.num.red = r at *
    unfold Qd.num at hz C2
    clear c h h' hr
    go_enter Try.func91, Try.ntmps91
    go_wp2_with (first | (go_at_call 87; with_reducible refine (C.out _).mono ?_; rintro e w1 ⟨rfl, hb1⟩; obtain ⟨g1, rfl⟩ := more_of_below hb1; clear hb1) | (go_at_call 93; with_reducible refine (C2.out _).mono ?_; rintro e w2 ⟨rfl, hb2⟩; obtain ⟨g2, rfl⟩ := more_of_below hb2; clear hb2))
    refine bodyPost_ret (v := .tuple #[.agg #[.int .i64 r.w, .int .i64 r.x, .int .i64 r.y, .int .i64 r.z], .int .i64 0]) (by simp [results, Try.results91, go_sem]) rfl ⟨rfl, by (repeat (first | with_reducible assumption | with_reducible exact Below.refl _ _ | with_reducible refine Below.drewN ?_ _ | with_reducible refine Below.drew ?_ | with_reducible refine Below.alloc ?_ (by first | omega | (simp; done) | (simp; omega)) _ | with_reducible refine Below.setCell ?_ (by first | omega | (simp; done) | (simp; omega)) _ | with_reducible refine below_more _ _ ?_ (by first | omega | (simp; done) | (simp; omega))))⟩
end Go.Proofs.Ythajaabgcbjfkaa
