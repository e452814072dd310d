/- Contracts: reduced, turn. Contract: a rotation in lowest terms. Contracts: the rotation of a quaternion. Contract: Matrix. Contract: awake: three examples. -/
import Derived.Test.YthajaabgcbjfkaaDoorA1
import Derived.Test.YthajaabgcbjfkaaDoorEqs
import Derived.Test.YthajaabgcbjfkaaDoorH1
import Derived.Test.YthajaabgcbjfkaaDoorS1
import Derived.Test.YthajaabgcbjfkaaDoorQ1
import Derived.Test.YthajaabgcbjfkaaDoorO1
import Derived.Test.YthajaabgcbjfkaaDoorBase
namespace Go.Proofs.YthajaabgcbjfkaaDoor
open Go.RowKit

/-- The common divisor of four numbers. -/
def g4 (a b c d : Int) : Int := ((gcdL [a, b, c, d] : Nat) : Int)
theorem gcd4_in (b : Nat) (cap : Nat) (n0 n1 n2 n3 : Int) (w : World) (hb : b < w.heap.size)
    (c0 : w.cell? ⟨b, 0, none⟩ = some (.int .i64 n0)) (c1 : w.cell? ⟨b, 1, none⟩ = some (.int .i64 n1)) (c2 : w.cell? ⟨b, 2, none⟩ = some (.int .i64 n2)) (c3 : w.cell? ⟨b, 3, none⟩ = some (.int .i64 n3))
    (b0 : n0.natAbs ≤ 4000000000000000000) (b1 : n1.natAbs ≤ 4000000000000000000) (b2 : n2.natAbs ≤ 4000000000000000000) (b3 : n3.natAbs ≤ 4000000000000000000) :
    Calls Tryd.prog 42 #[.slice (some ⟨b, 0, none⟩) 4 cap] w fun e w' => e = .returned (.int .i64 (g4 n0 n1 n2 n3)) ∧ Below w.heap.size w w' := by
  refine gcd_any [n0, n1, n2, n3] b 0 cap w (by simp) (fun k x hx => ?_) hb (fun x hx => ?_)
  · rw [Nat.zero_add]
    match k with
    | 0 => simp only [List.getElem?_cons_zero, Option.some.injEq] at hx; subst hx; exact c0
    | 1 => simp only [List.getElem?_cons_succ, List.getElem?_cons_zero, Option.some.injEq] at hx; subst hx; exact c1
    | 2 => simp only [List.getElem?_cons_succ, List.getElem?_cons_zero, Option.some.injEq] at hx; subst hx; exact c2
    | 3 => simp only [List.getElem?_cons_succ, List.getElem?_cons_zero, Option.some.injEq] at hx; subst hx; exact c3
    | k + 4 => simp at hx
  · simp only [List.mem_cons, List.not_mem_nil, or_false] at hx
    rcases hx with rfl | rfl | rfl | rfl <;> assumption

def Qt.neg (a : Qt) : Qt := ⟨-a.w, -a.x, -a.y, -a.z⟩
/-- The first number other than 0 is negative. -/
def Qt.negb (a : Qt) : Bool := decide (a.w < 0) || (decide (a.w = 0) && (decide (a.x < 0) || (decide (a.x = 0) && (decide (a.y < 0) || (decide (a.y = 0) && decide (a.z < 0))))))
def Qt.red (a : Qt) : Qt := if (a.over (g4 a.w a.x a.y a.z)).negb then (a.over (g4 a.w a.x a.y a.z)).neg else a.over (g4 a.w a.x a.y a.z)

set_option maxRecDepth 10000 in
set_option maxHeartbeats 2000000 in
theorem reduced_in (a : Qt) (h : a.InR) (h0 : 1 ≤ g4 a.w a.x a.y a.z) (w : World) :
    Calls Tryd.prog 17 #[.agg #[.int .i64 a.w, .int .i64 a.x, .int .i64 a.y, .int .i64 a.z]] w fun e w' => e = .returned (.agg #[.int .i64 a.red.w, .int .i64 a.red.x, .int .i64 a.red.y, .int .i64 a.red.z]) ∧ Below w.heap.size w w' := by
  have hO := fun w => over_in a (g4 a.w a.x a.y a.z) w h0 h
  have hb := Qt.over_InR h h0
  have hr : a.red = if (a.over (g4 a.w a.x a.y a.z)).negb then (a.over (g4 a.w a.x a.y a.z)).neg else a.over (g4 a.w a.x a.y a.z) := rfl
  obtain ⟨⟨i0, i1⟩, ⟨i2, i3⟩, ⟨i4, i5⟩, ⟨i6, i7⟩⟩ := h
  have hG : ∀ w b cap, b < w.heap.size → w.cell? ⟨b, 0, none⟩ = some (.int .i64 a.w) → w.cell? ⟨b, 1, none⟩ = some (.int .i64 a.x) → w.cell? ⟨b, 2, none⟩ = some (.int .i64 a.y) → w.cell? ⟨b, 3, none⟩ = some (.int .i64 a.z) →
      Calls Tryd.prog 42 #[.slice (some ⟨b, 0, none⟩) 4 cap] w fun e w' => e = .returned (.int .i64 (g4 a.w a.x a.y a.z)) ∧ Below w.heap.size w w' :=
    fun w b cap hb c0 c1 c2 c3 => gcd4_in b cap a.w a.x a.y a.z w hb c0 c1 c2 c3 (by omega) (by omega) (by omega) (by omega)
  generalize a.red = r at *
  generalize a.over (g4 a.w a.x a.y a.z) = b at *
  generalize g4 a.w a.x a.y a.z = g at *
  obtain ⟨⟨j0, j1⟩, ⟨j2, j3⟩, ⟨j4, j5⟩, ⟨j6, j7⟩⟩ := hb
  have HR := Lib.hid hr
  have HO := Lib.hid hO
  have HG := Lib.hid hG
  clear hr hO hG
  have k0 : ∀ (x y z t : Int) (w : World), (Instr.index 54 (.agg #[.int .i64 x, .int .i64 y, .int .i64 z, .int .i64 t]) (.int .i64 0)).run Tryd.prog w = .ok (.int .i64 x) w := fun _ _ _ _ _ => by kernel_rfl
  have k1 : ∀ (x y z t : Int) (w : World), (Instr.index 54 (.agg #[.int .i64 x, .int .i64 y, .int .i64 z, .int .i64 t]) (.int .i64 1)).run Tryd.prog w = .ok (.int .i64 y) w := fun _ _ _ _ _ => by kernel_rfl
  have k2 : ∀ (x y z t : Int) (w : World), (Instr.index 54 (.agg #[.int .i64 x, .int .i64 y, .int .i64 z, .int .i64 t]) (.int .i64 2)).run Tryd.prog w = .ok (.int .i64 z) w := fun _ _ _ _ _ => by kernel_rfl
  have k3 : ∀ (x y z t : Int) (w : World), (Instr.index 54 (.agg #[.int .i64 x, .int .i64 y, .int .i64 z, .int .i64 t]) (.int .i64 3)).run Tryd.prog w = .ok (.int .i64 t) w := fun _ _ _ _ _ => by kernel_rfl
  go_enter Tryd.func17, Tryd.ntmps17
  go_wp2_with fail
  (refine wp_region_calm_tail 4 (Ext _) (by kernel_rfl) (by kernel_rfl) (Ext.start _) ?_; simp only [List.take_succ_cons, List.take_zero, List.drop_succ_cons, List.drop_zero]; (repeat (refine wpQuiet_step (fun K hK => ?_); go_simp; (try go_bits); apply Exists.intro; refine ⟨fun w' hw' => ?_, hK _ ?_⟩; (focus (first | with_reducible exact rfl | (go_at_call 42; (obtain ⟨gx, rfl⟩ := more_of_below (Ext.below hw'); refine Ext.call hw' (HG.out _ _ _ ?_ ?_ ?_ ?_ ?_) <;> go_simp)) | (go_at_call 41; (with_reducible exact Ext.call hw' (HO.out _))) | (obtain ⟨gx, rfl⟩ := more_of_below (Ext.below hw'); go_simp; exact rfl))); clear hK K)); refine wpQuiet_nil ?_; intro w1 hw1; have hb1 := Ext.below hw1; clear hw1; obtain ⟨g1, rfl⟩ := more_of_below hb1; clear hb1)
  clear HO HG
  go_wp2
  refine wp_loop_rounds 5 ?_
  repeat any_goals (rw [rounds_succ]; go_wp2)
  all_goals (first
    | (have hn : b.negb = true := (by simp only [Qt.negb, Bool.or_eq_true, Bool.and_eq_true, decide_eq_true_eq]; omega); have hr : r = b.neg := (by rw [HR.out, hn]; rfl); subst hr; refine bodyPost_ret (v := .agg #[.int .i64 b.neg.w, .int .i64 b.neg.x, .int .i64 b.neg.y, .int .i64 b.neg.z]) (by simp [results, Tryd.results17, go_sem, Qt.neg]) rfl ⟨rfl, ?_⟩)
    | (have hn : b.negb = false := (by simp only [Qt.negb, Bool.or_eq_false_iff, Bool.and_eq_false_iff, decide_eq_false_iff_not]; omega); obtain rfl : b = r := (by rw [HR.out, hn]; rfl); refine bodyPost_ret (v := .agg #[.int .i64 b.w, .int .i64 b.x, .int .i64 b.y, .int .i64 b.z]) (by simp [results, Tryd.results17, go_sem]) rfl ⟨rfl, ?_⟩))
  all_goals ((repeat (first | with_reducible assumption | with_reducible exact Below.refl _ _ | with_reducible refine Below.drewN ?_ _ | with_reducible refine Below.drew ?_ | with_reducible refine Below.alloc ?_ (by first | omega | (simp; done) | (simp; omega)) _ | with_reducible refine Below.setCell ?_ (by first | omega | (simp; done) | (simp; omega)) _ | with_reducible refine below_more _ _ ?_ (by first | omega | (simp; done) | (simp; omega)))))

theorem g4_pos {a : Qt} (h : a.eqb ⟨0, 0, 0, 0⟩ = false) : 1 ≤ g4 a.w a.x a.y a.z := by
  have h0 : 0 ≤ g4 a.w a.x a.y a.z := by unfold g4; omega
  apply Int.not_lt.1
  intro hc
  have hz : gcdL [a.w, a.x, a.y, a.z] = 0 := by unfold g4 at *; omega
  simp only [gcdL, List.foldl_cons, List.foldl_nil, Nat.gcd_eq_zero_iff, Int.natAbs_eq_zero] at hz
  obtain ⟨⟨⟨⟨_, h1⟩, h2⟩, h3⟩, h4⟩ := hz
  have : a = ⟨0, 0, 0, 0⟩ := Qt.ext' h1 h2 h3 h4
  rw [this] at h
  exact absurd h (by decide)
/-- The error of a rotation's quaternion. -/
def Qd.serr (q : Qd) : Int := if q.okb then (if q.num.eqb ⟨0, 0, 0, 0⟩ then 10 else 0) else 3
theorem Qd.serr_cases (q : Qd) : (q.okb = false ∧ q.serr = 3) ∨ (q.okb = true ∧ q.num.eqb ⟨0, 0, 0, 0⟩ = true ∧ q.serr = 10) ∨ (q.okb = true ∧ q.num.eqb ⟨0, 0, 0, 0⟩ = false ∧ q.serr = 0) := by
  cases h1 : q.okb
  · exact .inl ⟨rfl, by simp [serr, h1]⟩
  cases h2 : q.num.eqb ⟨0, 0, 0, 0⟩
  · exact .inr (.inr ⟨rfl, rfl, by simp [serr, h1, h2]⟩)
  · exact .inr (.inl ⟨rfl, rfl, by simp [serr, h1, h2]⟩)
theorem Qd.num_InR {q : Qd} (h : q.okb = true) : q.num.InR := by
  simp only [Qd.okb, decide_eq_true_eq] at h
  unfold Qt.InR Qd.num; simp only; omega

set_option maxRecDepth 10000 in
set_option maxHeartbeats 1000000 in
theorem turn_err (q : Qd) (h : q.serr ≠ 0) (w : World) :
    Calls Tryd.prog 38 #[.agg #[.int .i64 q.w, .int .i64 q.x, .int .i64 q.y, .int .i64 q.z, .int .i64 q.d]] w fun e w' => e = .returned (.tuple #[.agg #[.int .i64 0, .int .i64 0, .int .i64 0, .int .i64 0], .int .i64 q.serr]) ∧ Below w.heap.size w w' := by
  have c := checkQuat_any q
  rcases q.serr_cases with h' | h' | h'
  · rw [show q.err = 3 by simp [Qd.err, h'.1]] at c
    rw [h'.2]
    have C := Lib.hid c
    clear c h h'
    go_enter Tryd.func38, Tryd.ntmps38
    go_wp2_with (first | (go_at_call 56; with_reducible refine (C.out _).mono ?_; rintro e w1 ⟨rfl, hb1⟩; obtain ⟨g1, rfl⟩ := more_of_below hb1; clear hb1))
    refine bodyPost_ret (v := .tuple #[.agg #[.int .i64 0, .int .i64 0, .int .i64 0, .int .i64 0], .int .i64 3]) (by simp [results, Tryd.results38, go_sem]) rfl ⟨rfl, by (repeat (first | with_reducible assumption | with_reducible exact Below.refl _ _ | with_reducible refine Below.drewN ?_ _ | with_reducible refine Below.drew ?_ | with_reducible refine Below.alloc ?_ (by first | omega | (simp; done) | (simp; omega)) _ | with_reducible refine Below.setCell ?_ (by first | omega | (simp; done) | (simp; omega)) _ | with_reducible refine below_more _ _ ?_ (by first | omega | (simp; done) | (simp; omega))))⟩
  · rw [show q.err = 0 by simp [Qd.err, h'.1]] at c
    rw [h'.2.2]
    have C := Lib.hid c
    have hz := h'.2.1
    unfold Qd.num at hz
    clear c h h'
    go_enter Tryd.func38, Tryd.ntmps38
    go_wp2_with (first | (go_at_call 56; with_reducible refine (C.out _).mono ?_; rintro e w1 ⟨rfl, hb1⟩; obtain ⟨g1, rfl⟩ := more_of_below hb1; clear hb1))
    refine bodyPost_ret (v := .tuple #[.agg #[.int .i64 0, .int .i64 0, .int .i64 0, .int .i64 0], .int .i64 10]) (by simp [results, Tryd.results38, go_sem]) rfl ⟨rfl, by (repeat (first | with_reducible assumption | with_reducible exact Below.refl _ _ | with_reducible refine Below.drewN ?_ _ | with_reducible refine Below.drew ?_ | with_reducible refine Below.alloc ?_ (by first | omega | (simp; done) | (simp; omega)) _ | with_reducible refine Below.setCell ?_ (by first | omega | (simp; done) | (simp; omega)) _ | with_reducible refine below_more _ _ ?_ (by first | omega | (simp; done) | (simp; omega))))⟩
  · exact absurd h'.2.2 h
set_option maxRecDepth 10000 in
set_option maxHeartbeats 1000000 in
theorem turn_ok (q : Qd) (h : q.serr = 0) (w : World) :
    Calls Tryd.prog 38 #[.agg #[.int .i64 q.w, .int .i64 q.x, .int .i64 q.y, .int .i64 q.z, .int .i64 q.d]] w fun e w' => e = .returned (.tuple #[.agg #[.int .i64 q.num.red.w, .int .i64 q.num.red.x, .int .i64 q.num.red.y, .int .i64 q.num.red.z], .int .i64 0]) ∧ Below w.heap.size w w' := by
  have c := checkQuat_any q
  rcases q.serr_cases with h' | h' | h'
  · rw [h'.2] at h; exact absurd h (by decide)
  · rw [h'.2.2] at h; exact absurd h (by decide)
  · rw [show q.err = 0 by simp [Qd.err, h'.1]] at c
    have C := Lib.hid c
    have hz := h'.2.1
    have C2 := Lib.hid (reduced_in q.num (Qd.num_InR h'.1) (g4_pos hz))
    generalize hr : q.num.red = r at *
    unfold Qd.num at hz C2
    clear c h h' hr
    go_enter Tryd.func38, Tryd.ntmps38
    go_wp2_with (first | (go_at_call 56; with_reducible refine (C.out _).mono ?_; rintro e w1 ⟨rfl, hb1⟩; obtain ⟨g1, rfl⟩ := more_of_below hb1; clear hb1) | (go_at_call 17; with_reducible refine (C2.out _).mono ?_; rintro e w2 ⟨rfl, hb2⟩; obtain ⟨g2, rfl⟩ := more_of_below hb2; clear hb2))
    refine bodyPost_ret (v := .tuple #[.agg #[.int .i64 r.w, .int .i64 r.x, .int .i64 r.y, .int .i64 r.z], .int .i64 0]) (by simp [results, Tryd.results38, go_sem]) rfl ⟨rfl, by (repeat (first | with_reducible assumption | with_reducible exact Below.refl _ _ | with_reducible refine Below.drewN ?_ _ | with_reducible refine Below.drew ?_ | with_reducible refine Below.alloc ?_ (by first | omega | (simp; done) | (simp; omega)) _ | with_reducible refine Below.setCell ?_ (by first | omega | (simp; done) | (simp; omega)) _ | with_reducible refine below_more _ _ ?_ (by first | omega | (simp; done) | (simp; omega))))⟩
end Go.Proofs.YthajaabgcbjfkaaDoor

namespace Go.Proofs.YthajaabgcbjfkaaDoor
open Go.RowKit

/-- All ten numbers, each within 4 * 10^18; the denominator is positive. -/
structure Rt.In (x : Rt) : Prop where
  a : -4000000000000000000 ≤ x.a ∧ x.a ≤ 4000000000000000000
  b : -4000000000000000000 ≤ x.b ∧ x.b ≤ 4000000000000000000
  c : -4000000000000000000 ≤ x.c ∧ x.c ≤ 4000000000000000000
  d : -4000000000000000000 ≤ x.d ∧ x.d ≤ 4000000000000000000
  e : -4000000000000000000 ≤ x.e ∧ x.e ≤ 4000000000000000000
  f : -4000000000000000000 ≤ x.f ∧ x.f ≤ 4000000000000000000
  g : -4000000000000000000 ≤ x.g ∧ x.g ≤ 4000000000000000000
  h : -4000000000000000000 ≤ x.h ∧ x.h ≤ 4000000000000000000
  i : -4000000000000000000 ≤ x.i ∧ x.i ≤ 4000000000000000000
  n : 1 ≤ x.n ∧ x.n ≤ 4000000000000000000
def Rt.g1 (x : Rt) : Int := g4 x.n x.a x.b x.c
def Rt.g2 (x : Rt) : Int := g4 x.g1 x.d x.e x.f
def Rt.lg (x : Rt) : Int := g4 x.g2 x.g x.h x.i
def Rt.low (x : Rt) : Rt := ⟨x.a.tdiv x.lg, x.b.tdiv x.lg, x.c.tdiv x.lg, x.d.tdiv x.lg, x.e.tdiv x.lg, x.f.tdiv x.lg, x.g.tdiv x.lg, x.h.tdiv x.lg, x.i.tdiv x.lg, x.n / x.lg⟩

theorem gcdL_dvd4 (a b c d : Int) : ∀ x ∈ [a, b, c, d], gcdL [a, b, c, d] ∣ x.natAbs := by
  intro x hx
  simp only [gcdL, List.foldl_cons, List.foldl_nil, Nat.gcd_zero_left]
  simp only [List.mem_cons, List.not_mem_nil, or_false] at hx
  have h3 : ∀ m n k : Nat, Nat.gcd (Nat.gcd m n) k ∣ m := fun m n k => Nat.dvd_trans (Nat.gcd_dvd_left _ _) (Nat.gcd_dvd_left _ _)
  have h4 : ∀ m n k : Nat, Nat.gcd (Nat.gcd m n) k ∣ n := fun m n k => Nat.dvd_trans (Nat.gcd_dvd_left _ _) (Nat.gcd_dvd_right _ _)
  rcases hx with rfl | rfl | rfl | rfl
  · exact Nat.dvd_trans (Nat.gcd_dvd_left _ _) (h3 _ _ _)
  · exact Nat.dvd_trans (Nat.gcd_dvd_left _ _) (h4 _ _ _)
  · exact h4 _ _ _
  · exact Nat.gcd_dvd_right _ _
theorem g4_dvd (a b c d : Int) : g4 a b c d ∣ a ∧ g4 a b c d ∣ b ∧ g4 a b c d ∣ c ∧ g4 a b c d ∣ d := by
  have k : ∀ x ∈ [a, b, c, d], g4 a b c d ∣ x := fun x hx => Int.ofNat_dvd_left.2 (gcdL_dvd4 a b c d x hx)
  exact ⟨k _ (by simp), k _ (by simp), k _ (by simp), k _ (by simp)⟩
theorem g4_le {a b c d : Int} (h : 1 ≤ a) : 1 ≤ g4 a b c d ∧ g4 a b c d ≤ a := by
  have h1 := (g4_dvd a b c d).1
  have h2 := Int.le_of_dvd (by omega) h1
  have h3 : 0 ≤ g4 a b c d := by unfold g4; omega
  refine ⟨?_, h2⟩
  apply Int.not_lt.1
  intro hc
  have : g4 a b c d = 0 := by omega
  rw [this] at h1
  have := Int.zero_dvd.1 h1
  omega

set_option maxRecDepth 100000 in
set_option maxHeartbeats 4000000 in
theorem lowest_any (x : Rt) (h : x.In) (w : World) :
    Calls Tryd.prog 62 #[.agg #[.int .i64 x.a, .int .i64 x.b, .int .i64 x.c, .int .i64 x.d, .int .i64 x.e, .int .i64 x.f, .int .i64 x.g, .int .i64 x.h, .int .i64 x.i], .int .i64 x.n] w fun e w' => (1000000 < x.low.n → e = .returned (.tuple #[.agg #[.int .i64 0, .int .i64 0, .int .i64 0, .int .i64 0, .int .i64 0, .int .i64 0, .int .i64 0, .int .i64 0, .int .i64 0, .int .i64 0], .int .i64 8])) ∧ (x.low.n ≤ 1000000 → e = .returned (.tuple #[.agg #[.int .i64 x.low.a, .int .i64 x.low.b, .int .i64 x.low.c, .int .i64 x.low.d, .int .i64 x.low.e, .int .i64 x.low.f, .int .i64 x.low.g, .int .i64 x.low.h, .int .i64 x.low.i, .int .i64 x.low.n], .int .i64 0])) ∧ Below w.heap.size w w' := by
  have l1 : 1 ≤ x.g1 ∧ x.g1 ≤ x.n := g4_le h.n.1
  have l2 : 1 ≤ x.g2 ∧ x.g2 ≤ x.g1 := g4_le l1.1
  have l3 : 1 ≤ x.lg ∧ x.lg ≤ x.g2 := g4_le l2.1
  have hl : x.low = ⟨x.a.tdiv x.lg, x.b.tdiv x.lg, x.c.tdiv x.lg, x.d.tdiv x.lg, x.e.tdiv x.lg, x.f.tdiv x.lg, x.g.tdiv x.lg, x.h.tdiv x.lg, x.i.tdiv x.lg, x.n / x.lg⟩ := rfl
  have G1 : ∀ w b cap, b < w.heap.size → w.cell? ⟨b, 0, none⟩ = some (.int .i64 x.n) → w.cell? ⟨b, 1, none⟩ = some (.int .i64 x.a) → w.cell? ⟨b, 2, none⟩ = some (.int .i64 x.b) → w.cell? ⟨b, 3, none⟩ = some (.int .i64 x.c) →
      Calls Tryd.prog 42 #[.slice (some ⟨b, 0, none⟩) 4 cap] w fun e w' => e = .returned (.int .i64 x.g1) ∧ Below w.heap.size w w' :=
    fun w b cap hb c0 c1 c2 c3 => gcd4_in b cap x.n x.a x.b x.c w hb c0 c1 c2 c3 (by have := h.n; omega) (by have := h.a; omega) (by have := h.b; omega) (by have := h.c; omega)
  have G2 : ∀ w b cap, b < w.heap.size → w.cell? ⟨b, 0, none⟩ = some (.int .i64 x.g1) → w.cell? ⟨b, 1, none⟩ = some (.int .i64 x.d) → w.cell? ⟨b, 2, none⟩ = some (.int .i64 x.e) → w.cell? ⟨b, 3, none⟩ = some (.int .i64 x.f) →
      Calls Tryd.prog 42 #[.slice (some ⟨b, 0, none⟩) 4 cap] w fun e w' => e = .returned (.int .i64 x.g2) ∧ Below w.heap.size w w' :=
    fun w b cap hb c0 c1 c2 c3 => gcd4_in b cap x.g1 x.d x.e x.f w hb c0 c1 c2 c3 (by have := h.n; omega) (by have := h.d; omega) (by have := h.e; omega) (by have := h.f; omega)
  have G3 : ∀ w b cap, b < w.heap.size → w.cell? ⟨b, 0, none⟩ = some (.int .i64 x.g2) → w.cell? ⟨b, 1, none⟩ = some (.int .i64 x.g) → w.cell? ⟨b, 2, none⟩ = some (.int .i64 x.h) → w.cell? ⟨b, 3, none⟩ = some (.int .i64 x.i) →
      Calls Tryd.prog 42 #[.slice (some ⟨b, 0, none⟩) 4 cap] w fun e w' => e = .returned (.int .i64 x.lg) ∧ Below w.heap.size w w' :=
    fun w b cap hb c0 c1 c2 c3 => gcd4_in b cap x.g2 x.g x.h x.i w hb c0 c1 c2 c3 (by have := h.n; omega) (by have := h.g; omega) (by have := h.h; omega) (by have := h.i; omega)
  obtain ⟨p0, p1⟩ := Qt.tdiv_bd _ x.lg _ (by omega) l3.1 h.a
  obtain ⟨p2, p3⟩ := Qt.tdiv_bd _ x.lg _ (by omega) l3.1 h.b
  obtain ⟨p4, p5⟩ := Qt.tdiv_bd _ x.lg _ (by omega) l3.1 h.c
  obtain ⟨p6, p7⟩ := Qt.tdiv_bd _ x.lg _ (by omega) l3.1 h.d
  obtain ⟨p8, p9⟩ := Qt.tdiv_bd _ x.lg _ (by omega) l3.1 h.e
  obtain ⟨q0, q1⟩ := Qt.tdiv_bd _ x.lg _ (by omega) l3.1 h.f
  obtain ⟨q2, q3⟩ := Qt.tdiv_bd _ x.lg _ (by omega) l3.1 h.g
  obtain ⟨q4, q5⟩ := Qt.tdiv_bd _ x.lg _ (by omega) l3.1 h.h
  obtain ⟨q6, q7⟩ := Qt.tdiv_bd _ x.lg _ (by omega) l3.1 h.i
  obtain ⟨n1, n2⟩ := h.n
  obtain ⟨l3a, l3b⟩ := l3
  have ln : ¬ x.lg = 0 := by omega
  have hnn := Int.ediv_le_self x.lg (show 0 ≤ x.n by omega)
  have hn0 : 0 ≤ x.n / x.lg := Int.ediv_nonneg (by omega) (by omega)
  clear l1 l2 h l3b
  generalize x.low = y at *
  generalize x.lg = lg at *
  generalize x.g1 = g1 at *
  generalize x.g2 = g2 at *
  subst hl
  obtain ⟨xa, xb, xc, xd, xe, xf, xg, xh, xi, xn⟩ := x
  simp only at *
  have HG1 := Lib.hid G1
  have HG2 := Lib.hid G2
  have HG3 := Lib.hid G3
  clear G1 G2 G3
  have j0 : ∀ (a b c d e f g h i : Int) (w : World), (Instr.index 45 (.agg #[.int .i64 a, .int .i64 b, .int .i64 c, .int .i64 d, .int .i64 e, .int .i64 f, .int .i64 g, .int .i64 h, .int .i64 i]) (.int .i64 0)).run Tryd.prog w = .ok (.agg #[.int .i64 a, .int .i64 b, .int .i64 c]) w := fun _ _ _ _ _ _ _ _ _ _ => by kernel_rfl
  have j1 : ∀ (a b c d e f g h i : Int) (w : World), (Instr.index 45 (.agg #[.int .i64 a, .int .i64 b, .int .i64 c, .int .i64 d, .int .i64 e, .int .i64 f, .int .i64 g, .int .i64 h, .int .i64 i]) (.int .i64 1)).run Tryd.prog w = .ok (.agg #[.int .i64 d, .int .i64 e, .int .i64 f]) w := fun _ _ _ _ _ _ _ _ _ _ => by kernel_rfl
  have j2 : ∀ (a b c d e f g h i : Int) (w : World), (Instr.index 45 (.agg #[.int .i64 a, .int .i64 b, .int .i64 c, .int .i64 d, .int .i64 e, .int .i64 f, .int .i64 g, .int .i64 h, .int .i64 i]) (.int .i64 2)).run Tryd.prog w = .ok (.agg #[.int .i64 g, .int .i64 h, .int .i64 i]) w := fun _ _ _ _ _ _ _ _ _ _ => by kernel_rfl
  go_enter Tryd.func62, Tryd.ntmps62
  go_wp2
  refine wp_loop_rounds 4 ?_
  rw [rounds_succ]
  go_wp2_with (go_at_call 42; refine (HG1.out _ _ _ ?_ ?_ ?_ ?_ ?_).mono ?_; (iterate 5 (focus (go_simp; done))); rintro e w1 ⟨rfl, hb1⟩; obtain ⟨v1, rfl⟩ := more_of_below hb1; clear hb1)
  rw [rounds_succ]
  go_wp2_with (go_at_call 42; refine (HG2.out _ _ _ ?_ ?_ ?_ ?_ ?_).mono ?_; (iterate 5 (focus (go_simp; done))); rintro e w2 ⟨rfl, hb2⟩; obtain ⟨v2, rfl⟩ := more_of_below hb2; clear hb2)
  rw [rounds_succ]
  go_wp2_with (go_at_call 42; refine (HG3.out _ _ _ ?_ ?_ ?_ ?_ ?_).mono ?_; (iterate 5 (focus (go_simp; done))); rintro e w3 ⟨rfl, hb3⟩; obtain ⟨v3, rfl⟩ := more_of_below hb3; clear hb3)
  clear HG1 HG2 HG3
  rw [rounds_succ]
  go_wp2
  refine wp_loop_rounds 4 ?_
  iterate 3 (rw [rounds_succ]; go_wp2; refine wp_loop_rounds 4 ?_; (iterate 3 (rw [rounds_succ]; go_wp2; go_region; go_wp2)); rw [rounds_succ]; go_wp2)
  rw [rounds_succ]
  go_wp2
  · refine bodyPost_ret (v := .tuple #[.agg #[.int .i64 0, .int .i64 0, .int .i64 0, .int .i64 0, .int .i64 0, .int .i64 0, .int .i64 0, .int .i64 0, .int .i64 0, .int .i64 0], .int .i64 8]) (by simp [results, Tryd.results62, go_sem]) rfl ⟨fun _ => rfl, fun h => by omega, ?_⟩
    (repeat (first | with_reducible assumption | with_reducible exact Below.refl _ _ | with_reducible refine Below.drewN ?_ _ | with_reducible refine Below.drew ?_ | with_reducible refine Below.alloc ?_ (by first | omega | (simp; done) | (simp; omega)) _ | with_reducible refine Below.setCell ?_ (by first | omega | (simp; done) | (simp; omega)) _ | with_reducible refine below_more _ _ ?_ (by first | omega | (simp; done) | (simp; omega))))
  · go_region
    go_wp2
    refine bodyPost_ret (v := .tuple #[.agg #[.int .i64 (xa.tdiv lg), .int .i64 (xb.tdiv lg), .int .i64 (xc.tdiv lg), .int .i64 (xd.tdiv lg), .int .i64 (xe.tdiv lg), .int .i64 (xf.tdiv lg), .int .i64 (xg.tdiv lg), .int .i64 (xh.tdiv lg), .int .i64 (xi.tdiv lg), .int .i64 (xn / lg)], .int .i64 0]) (by simp [results, Tryd.results62, go_sem]) rfl ⟨fun h => by omega, fun _ => rfl, ?_⟩
    (repeat (first | with_reducible assumption | with_reducible exact Below.refl _ _ | with_reducible refine Below.drewN ?_ _ | with_reducible refine Below.drew ?_ | with_reducible refine Below.alloc ?_ (by first | omega | (simp; done) | (simp; omega)) _ | with_reducible refine Below.setCell ?_ (by first | omega | (simp; done) | (simp; omega)) _ | with_reducible refine below_more _ _ ?_ (by first | omega | (simp; done) | (simp; omega))))
end Go.Proofs.YthajaabgcbjfkaaDoor

namespace Go.Proofs.YthajaabgcbjfkaaDoor
open Go.RowKit
namespace Qt
def e1 : Qt := ⟨0, 1, 0, 0⟩
def e2 : Qt := ⟨0, 0, 1, 0⟩
def e3 : Qt := ⟨0, 0, 0, 1⟩
/-- The image of a unit vector. -/
def im (a v : Qt) : Qt := (a.mul v).mul a.conj
/-- The rotation of a quaternion, not yet in lowest terms. -/
def rot (a : Qt) : Rt := ⟨(a.im e1).x, (a.im e2).x, (a.im e3).x, (a.im e1).y, (a.im e2).y, (a.im e3).y, (a.im e1).z, (a.im e2).z, (a.im e3).z, a.nrm⟩
theorem nrm_im (a v : Qt) : (a.im v).nrm = a.nrm * v.nrm * a.nrm := by unfold im; rw [nrm_mul, nrm_mul, nrm_conj]
theorem im_bd {a v : Qt} (h : a.nrm ≤ 4000000000000) (hv : v.nrm = 1) : Bd 4000000000000 (a.im v) := by
  have h0 := a.nrm_nonneg
  refine bd_of_nrm (by omega) ?_
  rw [nrm_im, hv, Int.mul_one]
  exact Int.le_trans (Int.mul_le_mul_of_nonneg_left h h0) (Int.mul_le_mul_of_nonneg_right h (by omega))
theorem nrm_e1 : e1.nrm = 1 := by decide
theorem nrm_e2 : e2.nrm = 1 := by decide
theorem nrm_e3 : e3.nrm = 1 := by decide
theorem rot_In {a : Qt} (h0 : 1 ≤ a.nrm) (h : a.nrm ≤ 4000000000000) : a.rot.In := by
  obtain ⟨_, a1, a2, a3⟩ := im_bd h nrm_e1
  obtain ⟨_, b1, b2, b3⟩ := im_bd h nrm_e2
  obtain ⟨_, c1, c2, c3⟩ := im_bd h nrm_e3
  constructor <;> (simp only [rot]; omega)
end Qt

set_option maxRecDepth 100000 in
set_option maxHeartbeats 4000000 in
theorem matrix_walk (a c p1 p2 p3 i1 i2 i3 : Qt) (n : Int) (v : Value) (r : Value) (z : Int) (hv : v = .tuple #[r, .int .i64 z]) (ra rb rc rd re rf rg rh ri rn : Int) (hr : r = .agg #[.int .i64 ra, .int .i64 rb, .int .i64 rc, .int .i64 rd, .int .i64 re, .int .i64 rf, .int .i64 rg, .int .i64 rh, .int .i64 ri, .int .i64 rn])
    (t1 : ∀ w, Calls Tryd.prog 18 #[.agg #[.int .i64 a.w, .int .i64 a.x, .int .i64 a.y, .int .i64 a.z], .agg #[.int .i64 0, .int .i64 1, .int .i64 0, .int .i64 0]] w fun e w' => e = .returned (.agg #[.int .i64 p1.w, .int .i64 p1.x, .int .i64 p1.y, .int .i64 p1.z]) ∧ Below w.heap.size w w')
    (t2 : ∀ w, Calls Tryd.prog 18 #[.agg #[.int .i64 a.w, .int .i64 a.x, .int .i64 a.y, .int .i64 a.z], .agg #[.int .i64 0, .int .i64 0, .int .i64 1, .int .i64 0]] w fun e w' => e = .returned (.agg #[.int .i64 p2.w, .int .i64 p2.x, .int .i64 p2.y, .int .i64 p2.z]) ∧ Below w.heap.size w w')
    (t3 : ∀ w, Calls Tryd.prog 18 #[.agg #[.int .i64 a.w, .int .i64 a.x, .int .i64 a.y, .int .i64 a.z], .agg #[.int .i64 0, .int .i64 0, .int .i64 0, .int .i64 1]] w fun e w' => e = .returned (.agg #[.int .i64 p3.w, .int .i64 p3.x, .int .i64 p3.y, .int .i64 p3.z]) ∧ Below w.heap.size w w')
    (u1 : ∀ w, Calls Tryd.prog 18 #[.agg #[.int .i64 p1.w, .int .i64 p1.x, .int .i64 p1.y, .int .i64 p1.z], .agg #[.int .i64 c.w, .int .i64 c.x, .int .i64 c.y, .int .i64 c.z]] w fun e w' => e = .returned (.agg #[.int .i64 i1.w, .int .i64 i1.x, .int .i64 i1.y, .int .i64 i1.z]) ∧ Below w.heap.size w w')
    (u2 : ∀ w, Calls Tryd.prog 18 #[.agg #[.int .i64 p2.w, .int .i64 p2.x, .int .i64 p2.y, .int .i64 p2.z], .agg #[.int .i64 c.w, .int .i64 c.x, .int .i64 c.y, .int .i64 c.z]] w fun e w' => e = .returned (.agg #[.int .i64 i2.w, .int .i64 i2.x, .int .i64 i2.y, .int .i64 i2.z]) ∧ Below w.heap.size w w')
    (u3 : ∀ w, Calls Tryd.prog 18 #[.agg #[.int .i64 p3.w, .int .i64 p3.x, .int .i64 p3.y, .int .i64 p3.z], .agg #[.int .i64 c.w, .int .i64 c.x, .int .i64 c.y, .int .i64 c.z]] w fun e w' => e = .returned (.agg #[.int .i64 i3.w, .int .i64 i3.x, .int .i64 i3.y, .int .i64 i3.z]) ∧ Below w.heap.size w w')
    (hc : ∀ w, Calls Tryd.prog 40 #[.agg #[.int .i64 a.w, .int .i64 a.x, .int .i64 a.y, .int .i64 a.z]] w fun e w' => e = .returned (.agg #[.int .i64 c.w, .int .i64 c.x, .int .i64 c.y, .int .i64 c.z]) ∧ Below w.heap.size w w')
    (hs : ∀ w, Calls Tryd.prog 63 #[.agg #[.int .i64 a.w, .int .i64 a.x, .int .i64 a.y, .int .i64 a.z]] w fun e w' => e = .returned (.int .i64 n) ∧ Below w.heap.size w w')
    (hl : ∀ w, Calls Tryd.prog 62 #[.agg #[.int .i64 i1.x, .int .i64 i2.x, .int .i64 i3.x, .int .i64 i1.y, .int .i64 i2.y, .int .i64 i3.y, .int .i64 i1.z, .int .i64 i2.z, .int .i64 i3.z], .int .i64 n] w fun e w' => e = .returned v ∧ Below w.heap.size w w') (w : World) :
    Calls Tryd.prog 39 #[.agg #[.int .i64 a.w, .int .i64 a.x, .int .i64 a.y, .int .i64 a.z]] w fun e w' => e = .returned v ∧ Below w.heap.size w w' := by
  subst hv hr
  have T1 := Lib.hid t1; have T2 := Lib.hid t2; have T3 := Lib.hid t3
  have U1 := Lib.hid u1; have U2 := Lib.hid u2; have U3 := Lib.hid u3
  have HC := Lib.hid hc; have HS := Lib.hid hs; have HL := Lib.hid hl
  clear t1 t2 t3 u1 u2 u3 hc hs hl
  go_enter Tryd.func39, Tryd.ntmps39
  go_wp2
  refine wp_loop_rounds 4 ?_
  rw [rounds_succ]
  go_wp2_with fail
  (apply wp_region_own 7 [.inl _, .inl _, .inl _, .inl _, .inl _, .inl _, .inr (.cells #[.int .i64 0, .int .i64 0, .int .i64 0, .int .i64 0] 54)] (by kernel_rfl) (by kernel_rfl); simp only [List.take_succ_cons, List.take_zero, List.drop_succ_cons, List.drop_zero]; (refine lexM_val rfl (fun K hK => ?_); go_simp; (try go_bits); refine ⟨fun w' hw' => ?_, hK _ ?_⟩; (focus (first | with_reducible exact rfl | (go_at_call 18; (first | with_reducible exact T1.out _ | with_reducible exact U1.out _)) | (go_at_call 40; (with_reducible exact HC.out _)) | (obtain ⟨gx, rfl⟩ := more_of_below (Ext.below hw'); go_simp; exact rfl))); clear hK K); (refine lexM_val rfl (fun K hK => ?_); go_simp; (try go_bits); refine ⟨fun w' hw' => ?_, hK _ ?_⟩; (focus (first | with_reducible exact rfl | (go_at_call 18; (first | with_reducible exact T1.out _ | with_reducible exact U1.out _)) | (go_at_call 40; (with_reducible exact HC.out _)) | (obtain ⟨gx, rfl⟩ := more_of_below (Ext.below hw'); go_simp; exact rfl))); clear hK K); (refine lexM_val rfl (fun K hK => ?_); go_simp; (try go_bits); refine ⟨fun w' hw' => ?_, hK _ ?_⟩; (focus (first | with_reducible exact rfl | (go_at_call 18; (first | with_reducible exact T1.out _ | with_reducible exact U1.out _)) | (go_at_call 40; (with_reducible exact HC.out _)) | (obtain ⟨gx, rfl⟩ := more_of_below (Ext.below hw'); go_simp; exact rfl))); clear hK K); (refine lexM_val rfl (fun K hK => ?_); go_simp; (try go_bits); refine ⟨fun w' hw' => ?_, hK _ ?_⟩; (focus (first | with_reducible exact rfl | (go_at_call 18; (first | with_reducible exact T1.out _ | with_reducible exact U1.out _)) | (go_at_call 40; (with_reducible exact HC.out _)) | (obtain ⟨gx, rfl⟩ := more_of_below (Ext.below hw'); go_simp; exact rfl))); clear hK K); (refine lexM_val rfl (fun K hK => ?_); go_simp; (try go_bits); refine ⟨fun w' hw' => ?_, hK _ ?_⟩; (focus (first | with_reducible exact rfl | (go_at_call 18; (first | with_reducible exact T1.out _ | with_reducible exact U1.out _)) | (go_at_call 40; (with_reducible exact HC.out _)) | (obtain ⟨gx, rfl⟩ := more_of_below (Ext.below hw'); go_simp; exact rfl))); clear hK K); (refine lexM_val rfl (fun K hK => ?_); go_simp; (try go_bits); refine ⟨fun w' hw' => ?_, hK _ ?_⟩; (focus (first | with_reducible exact rfl | (go_at_call 18; (first | with_reducible exact T1.out _ | with_reducible exact U1.out _)) | (go_at_call 40; (with_reducible exact HC.out _)) | (obtain ⟨gx, rfl⟩ := more_of_below (Ext.below hw'); go_simp; exact rfl))); clear hK K); (refine lexM_mem rfl rfl (fun w => by first | rfl | (go_simp; rfl)) (fun b11 hb11 hn11 => ?_); simp only [Act.put, List.setIfInBounds_toArray, List.set_cons_succ, List.set_cons_zero]); intro w1 hw1; have hB1 := hw1.1; have hO11 := (hw1.2 b11 _ (Or.inl ⟨rfl, rfl⟩)).2; clear hn11 hw1; obtain ⟨g1, g1', hE1, rfl⟩ := split_block hB1 hb11 hO11; clear hB1 hb11 hO11; (repeat (first | simp only [size_more_eq] at hE1 | simp only [World.size_alloc] at hE1)); subst hE1)
  go_wp2
  refine wp_loop_rounds 4 ?_
  iterate 3 (rw [rounds_succ]; go_wp2; go_region; go_wp2)
  rw [rounds_succ]
  go_wp2
  rw [rounds_succ]
  go_wp2_with fail
  (apply wp_region_own 7 [.inl _, .inl _, .inl _, .inl _, .inl _, .inl _, .inr (.cells #[.int .i64 0, .int .i64 0, .int .i64 0, .int .i64 0] 54)] (by kernel_rfl) (by kernel_rfl); simp only [List.take_succ_cons, List.take_zero, List.drop_succ_cons, List.drop_zero]; (refine lexM_val rfl (fun K hK => ?_); go_simp; (try go_bits); refine ⟨fun w' hw' => ?_, hK _ ?_⟩; (focus (first | with_reducible exact rfl | (go_at_call 18; (first | with_reducible exact T2.out _ | with_reducible exact U2.out _)) | (go_at_call 40; (with_reducible exact HC.out _)) | (obtain ⟨gx, rfl⟩ := more_of_below (Ext.below hw'); go_simp; exact rfl))); clear hK K); (refine lexM_val rfl (fun K hK => ?_); go_simp; (try go_bits); refine ⟨fun w' hw' => ?_, hK _ ?_⟩; (focus (first | with_reducible exact rfl | (go_at_call 18; (first | with_reducible exact T2.out _ | with_reducible exact U2.out _)) | (go_at_call 40; (with_reducible exact HC.out _)) | (obtain ⟨gx, rfl⟩ := more_of_below (Ext.below hw'); go_simp; exact rfl))); clear hK K); (refine lexM_val rfl (fun K hK => ?_); go_simp; (try go_bits); refine ⟨fun w' hw' => ?_, hK _ ?_⟩; (focus (first | with_reducible exact rfl | (go_at_call 18; (first | with_reducible exact T2.out _ | with_reducible exact U2.out _)) | (go_at_call 40; (with_reducible exact HC.out _)) | (obtain ⟨gx, rfl⟩ := more_of_below (Ext.below hw'); go_simp; exact rfl))); clear hK K); (refine lexM_val rfl (fun K hK => ?_); go_simp; (try go_bits); refine ⟨fun w' hw' => ?_, hK _ ?_⟩; (focus (first | with_reducible exact rfl | (go_at_call 18; (first | with_reducible exact T2.out _ | with_reducible exact U2.out _)) | (go_at_call 40; (with_reducible exact HC.out _)) | (obtain ⟨gx, rfl⟩ := more_of_below (Ext.below hw'); go_simp; exact rfl))); clear hK K); (refine lexM_val rfl (fun K hK => ?_); go_simp; (try go_bits); refine ⟨fun w' hw' => ?_, hK _ ?_⟩; (focus (first | with_reducible exact rfl | (go_at_call 18; (first | with_reducible exact T2.out _ | with_reducible exact U2.out _)) | (go_at_call 40; (with_reducible exact HC.out _)) | (obtain ⟨gx, rfl⟩ := more_of_below (Ext.below hw'); go_simp; exact rfl))); clear hK K); (refine lexM_val rfl (fun K hK => ?_); go_simp; (try go_bits); refine ⟨fun w' hw' => ?_, hK _ ?_⟩; (focus (first | with_reducible exact rfl | (go_at_call 18; (first | with_reducible exact T2.out _ | with_reducible exact U2.out _)) | (go_at_call 40; (with_reducible exact HC.out _)) | (obtain ⟨gx, rfl⟩ := more_of_below (Ext.below hw'); go_simp; exact rfl))); clear hK K); (refine lexM_mem rfl rfl (fun w => by first | rfl | (go_simp; rfl)) (fun b21 hb21 hn21 => ?_); simp only [Act.put, List.setIfInBounds_toArray, List.set_cons_succ, List.set_cons_zero]); intro w2 hw2; have hB2 := hw2.1; have hO21 := (hw2.2 b21 _ (Or.inl ⟨rfl, rfl⟩)).2; clear hn21 hw2; obtain ⟨g2, g2', hE2, rfl⟩ := split_block hB2 hb21 hO21; clear hB2 hb21 hO21; (repeat (first | simp only [size_more_eq] at hE2 | simp only [World.size_alloc] at hE2)); subst hE2)
  go_wp2
  refine wp_loop_rounds 4 ?_
  iterate 3 (rw [rounds_succ]; go_wp2; go_region; go_wp2)
  rw [rounds_succ]
  go_wp2
  rw [rounds_succ]
  go_wp2_with fail
  (apply wp_region_own 7 [.inl _, .inl _, .inl _, .inl _, .inl _, .inl _, .inr (.cells #[.int .i64 0, .int .i64 0, .int .i64 0, .int .i64 0] 54)] (by kernel_rfl) (by kernel_rfl); simp only [List.take_succ_cons, List.take_zero, List.drop_succ_cons, List.drop_zero]; (refine lexM_val rfl (fun K hK => ?_); go_simp; (try go_bits); refine ⟨fun w' hw' => ?_, hK _ ?_⟩; (focus (first | with_reducible exact rfl | (go_at_call 18; (first | with_reducible exact T3.out _ | with_reducible exact U3.out _)) | (go_at_call 40; (with_reducible exact HC.out _)) | (obtain ⟨gx, rfl⟩ := more_of_below (Ext.below hw'); go_simp; exact rfl))); clear hK K); (refine lexM_val rfl (fun K hK => ?_); go_simp; (try go_bits); refine ⟨fun w' hw' => ?_, hK _ ?_⟩; (focus (first | with_reducible exact rfl | (go_at_call 18; (first | with_reducible exact T3.out _ | with_reducible exact U3.out _)) | (go_at_call 40; (with_reducible exact HC.out _)) | (obtain ⟨gx, rfl⟩ := more_of_below (Ext.below hw'); go_simp; exact rfl))); clear hK K); (refine lexM_val rfl (fun K hK => ?_); go_simp; (try go_bits); refine ⟨fun w' hw' => ?_, hK _ ?_⟩; (focus (first | with_reducible exact rfl | (go_at_call 18; (first | with_reducible exact T3.out _ | with_reducible exact U3.out _)) | (go_at_call 40; (with_reducible exact HC.out _)) | (obtain ⟨gx, rfl⟩ := more_of_below (Ext.below hw'); go_simp; exact rfl))); clear hK K); (refine lexM_val rfl (fun K hK => ?_); go_simp; (try go_bits); refine ⟨fun w' hw' => ?_, hK _ ?_⟩; (focus (first | with_reducible exact rfl | (go_at_call 18; (first | with_reducible exact T3.out _ | with_reducible exact U3.out _)) | (go_at_call 40; (with_reducible exact HC.out _)) | (obtain ⟨gx, rfl⟩ := more_of_below (Ext.below hw'); go_simp; exact rfl))); clear hK K); (refine lexM_val rfl (fun K hK => ?_); go_simp; (try go_bits); refine ⟨fun w' hw' => ?_, hK _ ?_⟩; (focus (first | with_reducible exact rfl | (go_at_call 18; (first | with_reducible exact T3.out _ | with_reducible exact U3.out _)) | (go_at_call 40; (with_reducible exact HC.out _)) | (obtain ⟨gx, rfl⟩ := more_of_below (Ext.below hw'); go_simp; exact rfl))); clear hK K); (refine lexM_val rfl (fun K hK => ?_); go_simp; (try go_bits); refine ⟨fun w' hw' => ?_, hK _ ?_⟩; (focus (first | with_reducible exact rfl | (go_at_call 18; (first | with_reducible exact T3.out _ | with_reducible exact U3.out _)) | (go_at_call 40; (with_reducible exact HC.out _)) | (obtain ⟨gx, rfl⟩ := more_of_below (Ext.below hw'); go_simp; exact rfl))); clear hK K); (refine lexM_mem rfl rfl (fun w => by first | rfl | (go_simp; rfl)) (fun b31 hb31 hn31 => ?_); simp only [Act.put, List.setIfInBounds_toArray, List.set_cons_succ, List.set_cons_zero]); intro w3 hw3; have hB3 := hw3.1; have hO31 := (hw3.2 b31 _ (Or.inl ⟨rfl, rfl⟩)).2; clear hn31 hw3; obtain ⟨g3, g3', hE3, rfl⟩ := split_block hB3 hb31 hO31; clear hB3 hb31 hO31; (repeat (first | simp only [size_more_eq] at hE3 | simp only [World.size_alloc] at hE3)); subst hE3)
  go_wp2
  refine wp_loop_rounds 4 ?_
  iterate 3 (rw [rounds_succ]; go_wp2; go_region; go_wp2)
  rw [rounds_succ]
  go_wp2
  clear T1 T2 T3 U1 U2 U3 HC
  rw [rounds_succ]
  go_wp2_with fail
  (refine wp_region_calm_tail 6 (Ext _) (by kernel_rfl) (by kernel_rfl) (Ext.start _) ?_; simp only [List.take_succ_cons, List.take_zero, List.drop_succ_cons, List.drop_zero]; (repeat (refine wpQuiet_step (fun K hK => ?_); go_simp; (try go_bits); apply Exists.intro; refine ⟨fun w' hw' => ?_, hK _ ?_⟩; (focus (first | with_reducible exact rfl | (go_at_call 63; (with_reducible exact Ext.call hw' (HS.out _))) | (go_at_call 62; (with_reducible exact Ext.call hw' (HL.out _))) | (obtain ⟨gx, rfl⟩ := more_of_below (Ext.below hw'); go_simp; exact rfl))); clear hK K)); refine wpQuiet_nil ?_; intro w4 hw4; have hb4 := Ext.below hw4; clear hw4; obtain ⟨g4, rfl⟩ := more_of_below hb4; clear hb4)
  go_wp2
  refine bodyPost_ret (v := .tuple #[.agg #[.int .i64 ra, .int .i64 rb, .int .i64 rc, .int .i64 rd, .int .i64 re, .int .i64 rf, .int .i64 rg, .int .i64 rh, .int .i64 ri, .int .i64 rn], .int .i64 z]) (by simp [results, Tryd.results39, go_sem]) rfl ⟨rfl, ?_⟩
  (repeat (first | with_reducible assumption | with_reducible exact Below.refl _ _ | with_reducible refine Below.drewN ?_ _ | with_reducible refine Below.drew ?_ | with_reducible refine Below.alloc ?_ (by first | omega | (simp; done) | (simp; omega)) _ | with_reducible refine Below.setCell ?_ (by first | omega | (simp; done) | (simp; omega)) _ | with_reducible refine below_more _ _ ?_ (by first | omega | (simp; done) | (simp; omega))))

theorem matrix_any (a : Qt) (h0 : 1 ≤ a.nrm) (h : a.nrm ≤ 4000000000000) (w : World) :
    Calls Tryd.prog 39 #[.agg #[.int .i64 a.w, .int .i64 a.x, .int .i64 a.y, .int .i64 a.z]] w fun e w' => (1000000 < a.rot.low.n → e = .returned (.tuple #[.agg #[.int .i64 0, .int .i64 0, .int .i64 0, .int .i64 0, .int .i64 0, .int .i64 0, .int .i64 0, .int .i64 0, .int .i64 0, .int .i64 0], .int .i64 8])) ∧ (a.rot.low.n ≤ 1000000 → e = .returned (.tuple #[.agg #[.int .i64 a.rot.low.a, .int .i64 a.rot.low.b, .int .i64 a.rot.low.c, .int .i64 a.rot.low.d, .int .i64 a.rot.low.e, .int .i64 a.rot.low.f, .int .i64 a.rot.low.g, .int .i64 a.rot.low.h, .int .i64 a.rot.low.i, .int .i64 a.rot.low.n], .int .i64 0])) ∧ Below w.heap.size w w' := by
  have bd : ∀ q : Qt, q.nrm ≤ 16000000000000000000000000000000000000 → q.InR := fun q hq => Qt.inR_of_nrm hq
  have hm1 : ∀ v : Qt, v.nrm = 1 → (a.mul v).InR := fun v hv => bd _ (by rw [Qt.nrm_mul, hv]; omega)
  have hm2 : ∀ v : Qt, v.nrm = 1 → (a.im v).InR := fun v hv => by
    obtain ⟨b0, b1, b2, b3⟩ := Qt.im_bd h hv
    exact ⟨by omega, by omega, by omega, by omega⟩
  have t1 := fun w => times_in a Qt.e1 w (hm1 _ Qt.nrm_e1)
  have t2 := fun w => times_in a Qt.e2 w (hm1 _ Qt.nrm_e2)
  have t3 := fun w => times_in a Qt.e3 w (hm1 _ Qt.nrm_e3)
  have u1 := fun w => times_in (a.mul Qt.e1) a.conj w (hm2 _ Qt.nrm_e1)
  have u2 := fun w => times_in (a.mul Qt.e2) a.conj w (hm2 _ Qt.nrm_e2)
  have u3 := fun w => times_in (a.mul Qt.e3) a.conj w (hm2 _ Qt.nrm_e3)
  have hc := fun w => conj_in a w (bd _ (by omega))
  have hs := sum_any a
  rw [wr_in _ (by omega)] at hs
  have hl := lowest_any a.rot (Qt.rot_In h0 h)
  by_cases hb : 1000000 < a.rot.low.n
  · have hl' := fun w => (hl w).mono fun (e : Ending) w' ⟨h1, _, h3⟩ => (⟨h1 hb, h3⟩ : e = Ending.returned (.tuple #[.agg #[.int .i64 0, .int .i64 0, .int .i64 0, .int .i64 0, .int .i64 0, .int .i64 0, .int .i64 0, .int .i64 0, .int .i64 0, .int .i64 0], .int .i64 8]) ∧ Below w.heap.size w w')
    refine (matrix_walk a _ _ _ _ _ _ _ _ _ _ _ rfl 0 0 0 0 0 0 0 0 0 0 rfl t1 t2 t3 u1 u2 u3 hc hs hl' w).mono ?_
    rintro e w' ⟨he, hw⟩
    exact ⟨fun _ => he, fun h => by omega, hw⟩
  · have hl' := fun w => (hl w).mono fun (e : Ending) w' ⟨_, h1, h3⟩ => (⟨h1 (by omega), h3⟩ : e = Ending.returned (.tuple #[.agg #[.int .i64 a.rot.low.a, .int .i64 a.rot.low.b, .int .i64 a.rot.low.c, .int .i64 a.rot.low.d, .int .i64 a.rot.low.e, .int .i64 a.rot.low.f, .int .i64 a.rot.low.g, .int .i64 a.rot.low.h, .int .i64 a.rot.low.i, .int .i64 a.rot.low.n], .int .i64 0]) ∧ Below w.heap.size w w')
    refine (matrix_walk a _ _ _ _ _ _ _ _ _ _ _ rfl _ _ _ _ _ _ _ _ _ _ rfl t1 t2 t3 u1 u2 u3 hc hs hl' w).mono ?_
    rintro e w' ⟨he, hw⟩
    exact ⟨fun h => absurd h hb, fun _ => he, hw⟩
end Go.Proofs.YthajaabgcbjfkaaDoor

namespace Go.Proofs.YthajaabgcbjfkaaDoor
open Go.RowKit

set_option maxRecDepth 10000 in
set_option maxHeartbeats 1000000 in
theorem pmatrix_err (q : Qd) (h : q.serr ≠ 0) (w : World) :
    Calls Tryd.prog 14 #[.agg #[.int .i64 q.w, .int .i64 q.x, .int .i64 q.y, .int .i64 q.z, .int .i64 q.d]] w fun e w' => e = .returned (.tuple #[.agg #[.int .i64 0, .int .i64 0, .int .i64 0, .int .i64 0, .int .i64 0, .int .i64 0, .int .i64 0, .int .i64 0, .int .i64 0, .int .i64 0], .int .i64 q.serr]) ∧ Below w.heap.size w w' := by
  have C := Lib.hid (turn_err q h)
  have hb : (q.serr != 0) = true := by simpa using h
  generalize q.serr = s at *
  clear h
  go_enter Tryd.func14, Tryd.ntmps14
  go_wp2_with (first | (go_at_call 38; with_reducible refine (C.out _).mono ?_; rintro e w1 ⟨rfl, hb1⟩; obtain ⟨g1, rfl⟩ := more_of_below hb1; clear hb1))
  refine bodyPost_ret (v := .tuple #[.agg #[.int .i64 0, .int .i64 0, .int .i64 0, .int .i64 0, .int .i64 0, .int .i64 0, .int .i64 0, .int .i64 0, .int .i64 0, .int .i64 0], .int .i64 s]) (by simp [results, Tryd.results14, go_sem]) rfl ⟨rfl, by (repeat (first | with_reducible assumption | with_reducible exact Below.refl _ _ | with_reducible refine Below.drewN ?_ _ | with_reducible refine Below.drew ?_ | with_reducible refine Below.alloc ?_ (by first | omega | (simp; done) | (simp; omega)) _ | with_reducible refine Below.setCell ?_ (by first | omega | (simp; done) | (simp; omega)) _ | with_reducible refine below_more _ _ ?_ (by first | omega | (simp; done) | (simp; omega))))⟩

theorem Qt.nrm_pos {a : Qt} (h : a.eqb ⟨0, 0, 0, 0⟩ = false) : 1 ≤ a.nrm := nrm_pos_of h
theorem tdiv_sq (a g : Int) (_hg : 1 ≤ g) : a.tdiv g * a.tdiv g ≤ a * a := by
  have h1 := Int.natAbs_tdiv_le_natAbs a g
  have h2 := Nat.mul_le_mul h1 h1
  have e : ∀ x : Int, x * x = ((x.natAbs * x.natAbs : Nat) : Int) := fun x => by rw [Int.natCast_mul, Int.natAbs_mul_self']
  rw [e, e]
  omega
theorem Qt.nrm_neg (a : Qt) : a.neg.nrm = a.nrm := by simp only [Qt.nrm, Qt.neg, Int.neg_mul_neg]
theorem Qt.nrm_over (a : Qt) (g : Int) (hg : 1 ≤ g) : (a.over g).nrm ≤ a.nrm := by
  have h0 := tdiv_sq a.w g hg; have h1 := tdiv_sq a.x g hg; have h2 := tdiv_sq a.y g hg; have h3 := tdiv_sq a.z g hg
  simp only [Qt.nrm, Qt.over]; omega
/-- a is g times a / g. -/
theorem Qt.over_g4 (a : Qt) : a.w = g4 a.w a.x a.y a.z * (a.over (g4 a.w a.x a.y a.z)).w ∧ a.x = g4 a.w a.x a.y a.z * (a.over (g4 a.w a.x a.y a.z)).x ∧ a.y = g4 a.w a.x a.y a.z * (a.over (g4 a.w a.x a.y a.z)).y ∧ a.z = g4 a.w a.x a.y a.z * (a.over (g4 a.w a.x a.y a.z)).z := by
  obtain ⟨h1, h2, h3, h4⟩ := g4_dvd a.w a.x a.y a.z
  exact ⟨(Int.mul_tdiv_cancel' h1).symm, (Int.mul_tdiv_cancel' h2).symm, (Int.mul_tdiv_cancel' h3).symm, (Int.mul_tdiv_cancel' h4).symm⟩
theorem Qt.red_nrm {a : Qt} (h : a.eqb ⟨0, 0, 0, 0⟩ = false) : 1 ≤ a.red.nrm ∧ a.red.nrm ≤ a.nrm := by
  have hg := g4_pos h
  have hle := Qt.nrm_over a _ hg
  have hn := Qt.nrm_pos h
  have hpos : 1 ≤ (a.over (g4 a.w a.x a.y a.z)).nrm := by
    have h0 := (a.over (g4 a.w a.x a.y a.z)).nrm_nonneg
    apply Int.not_lt.1
    intro hc
    obtain ⟨k0, k1, k2, k3⟩ := Qt.bd_of_nrm (a := a.over (g4 a.w a.x a.y a.z)) (B := 0) (by omega) (by omega)
    obtain ⟨e0, e1, e2, e3⟩ := Qt.over_g4 a
    have z0 : (a.over (g4 a.w a.x a.y a.z)).w = 0 := by omega
    have z1 : (a.over (g4 a.w a.x a.y a.z)).x = 0 := by omega
    have z2 : (a.over (g4 a.w a.x a.y a.z)).y = 0 := by omega
    have z3 : (a.over (g4 a.w a.x a.y a.z)).z = 0 := by omega
    rw [z0, Int.mul_zero] at e0; rw [z1, Int.mul_zero] at e1; rw [z2, Int.mul_zero] at e2; rw [z3, Int.mul_zero] at e3
    have : a = ⟨0, 0, 0, 0⟩ := Qt.ext' e0 e1 e2 e3
    rw [this] at h
    exact absurd h (by decide)
  unfold Qt.red
  split
  · rw [Qt.nrm_neg]; exact ⟨hpos, hle⟩
  · exact ⟨hpos, hle⟩
theorem Qd.num_nrm {q : Qd} (h : q.okb = true) : q.num.nrm ≤ 4000000000000 := by
  simp only [Qd.okb, decide_eq_true_eq] at h
  obtain ⟨hw, hx, hy, hz, _⟩ := h
  have sq : ∀ u : Int, -1000000 ≤ u ∧ u ≤ 1000000 → u * u ≤ 1000000000000 := fun u h => by
    have : (1000000 - u) * (1000000 + u) ≥ 0 := Int.mul_nonneg (by omega) (by omega)
    grind
  have := sq _ hw; have := sq _ hx; have := sq _ hy; have := sq _ hz
  simp only [Qt.nrm, Qd.num]
  omega
/-- The rotation of an element. -/
def Qd.rot (q : Qd) : Rt := q.num.red.rot.low

set_option maxRecDepth 10000 in
set_option maxHeartbeats 1000000 in
theorem pmatrix_walk (q : Qd) (h : q.serr = 0) (ra rb rc rd re rf rg rh ri rn z : Int)
    (hm : ∀ w, Calls Tryd.prog 39 #[.agg #[.int .i64 q.num.red.w, .int .i64 q.num.red.x, .int .i64 q.num.red.y, .int .i64 q.num.red.z]] w fun e w' => e = .returned (.tuple #[.agg #[.int .i64 ra, .int .i64 rb, .int .i64 rc, .int .i64 rd, .int .i64 re, .int .i64 rf, .int .i64 rg, .int .i64 rh, .int .i64 ri, .int .i64 rn], .int .i64 z]) ∧ Below w.heap.size w w') (w : World) :
    Calls Tryd.prog 14 #[.agg #[.int .i64 q.w, .int .i64 q.x, .int .i64 q.y, .int .i64 q.z, .int .i64 q.d]] w fun e w' => e = .returned (.tuple #[.agg #[.int .i64 ra, .int .i64 rb, .int .i64 rc, .int .i64 rd, .int .i64 re, .int .i64 rf, .int .i64 rg, .int .i64 rh, .int .i64 ri, .int .i64 rn], .int .i64 z]) ∧ Below w.heap.size w w' := by
  have C := Lib.hid (turn_ok q h)
  have HM := Lib.hid hm
  generalize q.num.red = s at *
  clear h hm
  go_enter Tryd.func14, Tryd.ntmps14
  go_wp2_with (first | (go_at_call 38; with_reducible refine (C.out _).mono ?_; rintro e w1 ⟨rfl, hb1⟩; obtain ⟨g1, rfl⟩ := more_of_below hb1; clear hb1) | (go_at_call 39; with_reducible refine (HM.out _).mono ?_; rintro e w2 ⟨rfl, hb2⟩; obtain ⟨g2, rfl⟩ := more_of_below hb2; clear hb2))
  refine bodyPost_ret (v := .tuple #[.agg #[.int .i64 ra, .int .i64 rb, .int .i64 rc, .int .i64 rd, .int .i64 re, .int .i64 rf, .int .i64 rg, .int .i64 rh, .int .i64 ri, .int .i64 rn], .int .i64 z]) (by simp [results, Tryd.results14, go_sem]) rfl ⟨rfl, by (repeat (first | with_reducible assumption | with_reducible exact Below.refl _ _ | with_reducible refine Below.drewN ?_ _ | with_reducible refine Below.drew ?_ | with_reducible refine Below.alloc ?_ (by first | omega | (simp; done) | (simp; omega)) _ | with_reducible refine Below.setCell ?_ (by first | omega | (simp; done) | (simp; omega)) _ | with_reducible refine below_more _ _ ?_ (by first | omega | (simp; done) | (simp; omega))))⟩
theorem pmatrix_large (q : Qd) (h : q.serr = 0) (hl : 1000000 < q.rot.n) (w : World) :
    Calls Tryd.prog 14 #[.agg #[.int .i64 q.w, .int .i64 q.x, .int .i64 q.y, .int .i64 q.z, .int .i64 q.d]] w fun e w' => e = .returned (.tuple #[.agg #[.int .i64 0, .int .i64 0, .int .i64 0, .int .i64 0, .int .i64 0, .int .i64 0, .int .i64 0, .int .i64 0, .int .i64 0, .int .i64 0], .int .i64 8]) ∧ Below w.heap.size w w' := by
  rcases q.serr_cases with h' | h' | h'
  · rw [h'.2] at h; exact absurd h (by decide)
  · rw [h'.2.2] at h; exact absurd h (by decide)
  have hn := Qt.red_nrm h'.2.1
  have hb := Qd.num_nrm h'.1
  exact pmatrix_walk q h 0 0 0 0 0 0 0 0 0 0 8 (fun w => (matrix_any _ hn.1 (by omega) w).mono fun (e : Ending) w' ⟨h1, _, h3⟩ => ⟨h1 hl, h3⟩) w
theorem pmatrix_ok (q : Qd) (h : q.serr = 0) (hl : q.rot.n ≤ 1000000) (w : World) :
    Calls Tryd.prog 14 #[.agg #[.int .i64 q.w, .int .i64 q.x, .int .i64 q.y, .int .i64 q.z, .int .i64 q.d]] w fun e w' => e = .returned (.tuple #[.agg #[.int .i64 q.rot.a, .int .i64 q.rot.b, .int .i64 q.rot.c, .int .i64 q.rot.d, .int .i64 q.rot.e, .int .i64 q.rot.f, .int .i64 q.rot.g, .int .i64 q.rot.h, .int .i64 q.rot.i, .int .i64 q.rot.n], .int .i64 0]) ∧ Below w.heap.size w w' := by
  rcases q.serr_cases with h' | h' | h'
  · rw [h'.2] at h; exact absurd h (by decide)
  · rw [h'.2.2] at h; exact absurd h (by decide)
  have hn := Qt.red_nrm h'.2.1
  have hb := Qd.num_nrm h'.1
  exact pmatrix_walk q h _ _ _ _ _ _ _ _ _ _ 0 (fun w => (matrix_any _ hn.1 (by omega) w).mono fun (e : Ending) w' ⟨_, h1, h3⟩ => ⟨h1 hl, h3⟩) w
end Go.Proofs.YthajaabgcbjfkaaDoor

namespace Go.Proofs.YthajaabgcbjfkaaDoor
open Go.RowKit
attribute [local go_sem ↓] Go.wp_at_zero Go.wp_at_succ

set_option maxHeartbeats 400000 in
theorem lquat_any (a b c d : Int) (w : World) :
    Calls Tryd.prog 13 #[.int .i64 a, .int .i64 b, .int .i64 c, .int .i64 d] w fun e w' => e = .returned (.agg #[.int .i64 a, .int .i64 b, .int .i64 c, .int .i64 d, .int .i64 1]) ∧ Below w.heap.size w w' := by
  go_enter Tryd.func13, Tryd.ntmps13
  go_wp2
  refine bodyPost_ret (v := .agg #[.int .i64 a, .int .i64 b, .int .i64 c, .int .i64 d, .int .i64 1]) (by simp [results, Tryd.results13, go_sem]) rfl ⟨rfl, ?_⟩
  (repeat (first | with_reducible assumption | with_reducible exact Below.refl _ _ | with_reducible refine Below.drewN ?_ _ | with_reducible refine Below.drew ?_ | with_reducible refine Below.alloc ?_ (by first | omega | (simp; done) | (simp; omega)) _ | with_reducible refine Below.setCell ?_ (by first | omega | (simp; done) | (simp; omega)) _ | with_reducible refine below_more _ _ ?_ (by first | omega | (simp; done) | (simp; omega))))

theorem awake_div (w : World) :
    Calls Tryd.prog 12 #[.agg #[.int .i64 1, .int .i64 1, .int .i64 1, .int .i64 1, .int .i64 1], .agg #[.int .i64 2, .int .i64 0, .int .i64 0, .int .i64 0, .int .i64 1]] w fun e w' => e = .returned (.tuple #[.agg #[.int .i64 1, .int .i64 1, .int .i64 1, .int .i64 1, .int .i64 2, .int .i64 0, .int .i64 0, .int .i64 0, .int .i64 0, .int .i64 1], .int .i64 0]) ∧ Below w.heap.size w w' := by
  have hq : (⟨1, 1, 1, 1⟩ : Qt) = Qt.quo (Qd.rdv ⟨1, 1, 1, 1, 1⟩) (Qd.rdv ⟨2, 0, 0, 0, 1⟩) := by decide +kernel
  have hr : (⟨0, 0, 0, 0⟩ : Qt) = Qt.dr (Qd.rdv ⟨1, 1, 1, 1, 1⟩) (Qd.rdv ⟨2, 0, 0, 0, 1⟩) := by decide +kernel
  have hx : Qt.Hz (Qd.rdv ⟨1, 1, 1, 1, 1⟩) := Qd.hz_rdv (by decide +kernel)
  have hy : Qt.Hz (Qd.rdv ⟨2, 0, 0, 0, 1⟩) := Qd.hz_rdv (by decide +kernel)
  refine divide_ok ⟨1, 1, 1, 1, 1⟩ ⟨2, 0, 0, 0, 1⟩ w (by decide +kernel) (by decide +kernel) ⟨1, 1, 1, 1⟩ ⟨0, 0, 0, 0⟩ (by unfold Qt.InR; decide +kernel) (by unfold Qt.InR; decide +kernel) (fun w => ?_)
  have := divide_hz _ _ hx hy (by decide +kernel) (by decide +kernel) (by decide +kernel) w
  rwa [← hq, ← hr] at this
theorem awake_mat (w : World) :
    Calls Tryd.prog 14 #[.agg #[.int .i64 2, .int .i64 1, .int .i64 0, .int .i64 0, .int .i64 1]] w fun e w' => e = .returned (.tuple #[.agg #[.int .i64 5, .int .i64 0, .int .i64 0, .int .i64 0, .int .i64 3, .int .i64 (-4), .int .i64 0, .int .i64 4, .int .i64 3, .int .i64 5], .int .i64 0]) ∧ Below w.heap.size w w' := by
  have hr : Qd.rot ⟨2, 1, 0, 0, 1⟩ = ⟨5, 0, 0, 0, 3, -4, 0, 4, 3, 5⟩ := Rt.eqb_iff.1 (by decide +kernel)
  have := pmatrix_ok ⟨2, 1, 0, 0, 1⟩ (by decide +kernel) (by rw [hr]; decide) w
  rwa [hr] at this
theorem awake_norm (w : World) :
    Calls Tryd.prog 11 #[.int .i64 2] w fun e w' => ∃ v, e = .returned (.tuple #[v, .int .i64 0]) ∧ Rd w' v [⟨1, 1, 0, 0, 1⟩] ∧ Below w.heap.size w w' := by
  refine (pofNorm_ok 2 (by omega) (by omega) w).mono ?_
  rintro e w' ⟨v, rfl, h, hb⟩
  rw [ofNorm_two] at h
  exact ⟨v, rfl, h.rd, hb⟩
@[go_sem] theorem eqJ_mat (a0 a1 a2 a3 a4 a5 a6 a7 a8 b0 b1 b2 b3 b4 b5 b6 b7 b8 : Int) (w : World) : (Op.equalIn 9999 45 (.agg #[.int .i64 a0, .int .i64 a1, .int .i64 a2, .int .i64 a3, .int .i64 a4, .int .i64 a5, .int .i64 a6, .int .i64 a7, .int .i64 a8]) (.agg #[.int .i64 b0, .int .i64 b1, .int .i64 b2, .int .i64 b3, .int .i64 b4, .int .i64 b5, .int .i64 b6, .int .i64 b7, .int .i64 b8])).run Tryd.prog w = .ok (decide (a0 = b0 ∧ a1 = b1 ∧ a2 = b2) && (decide (a3 = b3 ∧ a4 = b4 ∧ a5 = b5) && decide (a6 = b6 ∧ a7 = b7 ∧ a8 = b8))) w :=
  eqIn_mat 45 44 3 Tryd.underlying45 Tryd.sizeOf44 Tryd.isAgg44 9996 (eqIn_arr3 44 3 Tryd.underlying44 Tryd.underlying3 Tryd.sizeOf3 Tryd.isAgg3 9996) ⟨a0, a1, a2, a3, a4, a5, a6, a7, a8, 0⟩ ⟨b0, b1, b2, b3, b4, b5, b6, b7, b8, 0⟩ w
theorem rd_one {W : World} {m : Nat} {q : Qd} (h : W.heap[m]? = some (.cells #[.int .i64 q.w, .int .i64 q.x, .int .i64 q.y, .int .i64 q.z, .int .i64 q.d] 33)) : Rd W (.slice (some ⟨m, 0, none⟩) 1 1) [q] := by
  refine .inr ⟨m, 1, rfl, (Array.getElem?_eq_some_iff.1 h).1, fun k p hp => ?_⟩
  match k with
  | 0 =>
    simp only [List.getElem?_cons_zero, Option.some.injEq] at hp; subst hp
    constructor <;> (rw [cell_of_row _ _ _ _ _ _ h]; rfl)
  | k + 1 => simp at hp
theorem awake_same (v : Value) (W W' : World) (hv : Rd W v [⟨1, 1, 0, 0, 1⟩]) (hb : Below W.heap.size W W') {m : Nat} (h : W'.heap[m]? = some (.cells #[.int .i64 1, .int .i64 1, .int .i64 0, .int .i64 0, .int .i64 1] 33)) :
    Calls Tryd.prog 15 #[v, .slice (some ⟨m, 0, none⟩) 1 1] W' fun e w' => e = .returned (.bool true) ∧ Below W'.heap.size W' w' :=
  same_any (l := [⟨1, 1, 0, 0, 1⟩]) (m := [⟨1, 1, 0, 0, 1⟩]) (hv.below hb) (rd_one (q := ⟨1, 1, 0, 0, 1⟩) h) (by simp) (by simp)

set_option maxRecDepth 100000 in
set_option maxHeartbeats 4000000 in
theorem awake_any (w : World) :
    Calls Tryd.prog 4 #[] w fun e w' => e = .returned (.bool true) ∧ Below w.heap.size w w' := by
  go_enter Tryd.func4, Tryd.ntmps4
  go_upto_region 4 with (first | (go_at_call 11; refine (awake_norm _).mono ?_; rintro e w1 ⟨v1, rfl, hrd, hb1⟩; have HRD := Lib.hid hrd; have HB1 := Lib.hid hb1; clear hrd) | (go_at_call 13; with_reducible refine (lquat_any _ _ _ _ _).mono ?_; rintro e w2 ⟨rfl, hb2⟩; obtain ⟨g2, rfl⟩ := more_of_below hb2; clear hb2) | (go_at_call 12; with_reducible refine (awake_div _).mono ?_; rintro e w3 ⟨rfl, hb3⟩; obtain ⟨g3, rfl⟩ := more_of_below hb3; clear hb3) | (go_at_call 14; with_reducible refine (awake_mat _).mono ?_; rintro e w4 ⟨rfl, hb4⟩; obtain ⟨g4, rfl⟩ := more_of_below hb4; clear hb4))
  have hsame : ∀ (W0 : World) (_ : Below w1.heap.size w1 W0) (B : Own2.Made) (o : Oper) (w' : World) (m : Nat), Ext W0 w' → Own2.CB W0 (Own2.res .any o (Own2.Made.ins 5 m (.cells #[.int .i64 1, .int .i64 1, .int .i64 0, .int .i64 0, .int .i64 1] 33) B)) w' → (∃ e ∈ o.after, Region.binds .any e = true ∧ e.on = 5) → Calls Tryd.prog 15 #[v1, .slice (some ⟨m, 0, none⟩) 1 1] w' fun e w'' => e = .returned (.bool true) ∧ Below w'.heap.size w' w'' :=
    fun W0 h0 B o w' m hw' hc he => awake_same v1 w1 w' HRD.out (Below.trans h0 (Below.mono hw' h0.size)) (hc.2 5 m _ ⟨Or.inl ⟨rfl, rfl, rfl⟩, he⟩).2
  have HSAME := Lib.hid hsame
  clear hsame
  (apply Own2.wp_region_own2 32 [.inl _, .inl _, .inl _, .inl _, .inl _, .inr (.cells #[.int .i64 1, .int .i64 1, .int .i64 0, .int .i64 0, .int .i64 1] 33, fun b => .slice (some ⟨b, 0, none⟩) 1 1), .inl _, .inl _, .inl _, .inl _, .inl _, .inl _, .inl _, .inl _, .inl _, .inl _, .inl _, .inl _, .inl _, .inl _, .inl _, .inl _, .inl _, .inl _, .inl _, .inl _, .inl _, .inl _, .inl _, .inl _, .inl _, .inl _] (by kernel_rfl) (by kernel_rfl); simp only [List.take_succ_cons, List.take_zero, List.drop_succ_cons, List.drop_zero]; (refine Own2.lexM_val rfl (fun K hK => ?_); go_simp; (try go_bits); refine ⟨fun w' hw' hcb' => ?_, hK _ ?_⟩; (focus (first | with_reducible exact rfl | (go_at_call 13; (with_reducible exact (lquat_any _ _ _ _ _))) | (go_at_call 15; (exact HSAME.out _ (by (repeat (first | with_reducible assumption | with_reducible exact Below.refl _ _ | with_reducible refine Below.drewN ?_ _ | with_reducible refine Below.drew ?_ | with_reducible refine Below.alloc ?_ (by first | omega | (simp; done) | (simp; omega)) _ | with_reducible refine Below.setCell ?_ (by first | omega | (simp; done) | (simp; omega)) _ | with_reducible refine below_more _ _ ?_ (by first | omega | (simp; done) | (simp; omega))))) _ _ _ _ hw' hcb' (by simp [Region.binds]))) | (obtain ⟨gx, rfl⟩ := more_of_below (Ext.below hw'); go_simp; exact rfl))); clear hK K); (refine Own2.lexM_val rfl (fun K hK => ?_); go_simp; (try go_bits); refine ⟨fun w' hw' hcb' => ?_, hK _ ?_⟩; (focus (first | with_reducible exact rfl | (go_at_call 13; (with_reducible exact (lquat_any _ _ _ _ _))) | (go_at_call 15; (exact HSAME.out _ (by (repeat (first | with_reducible assumption | with_reducible exact Below.refl _ _ | with_reducible refine Below.drewN ?_ _ | with_reducible refine Below.drew ?_ | with_reducible refine Below.alloc ?_ (by first | omega | (simp; done) | (simp; omega)) _ | with_reducible refine Below.setCell ?_ (by first | omega | (simp; done) | (simp; omega)) _ | with_reducible refine below_more _ _ ?_ (by first | omega | (simp; done) | (simp; omega))))) _ _ _ _ hw' hcb' (by simp [Region.binds]))) | (obtain ⟨gx, rfl⟩ := more_of_below (Ext.below hw'); go_simp; exact rfl))); clear hK K); (refine Own2.lexM_val rfl (fun K hK => ?_); go_simp; (try go_bits); refine ⟨fun w' hw' hcb' => ?_, hK _ ?_⟩; (focus (first | with_reducible exact rfl | (go_at_call 13; (with_reducible exact (lquat_any _ _ _ _ _))) | (go_at_call 15; (exact HSAME.out _ (by (repeat (first | with_reducible assumption | with_reducible exact Below.refl _ _ | with_reducible refine Below.drewN ?_ _ | with_reducible refine Below.drew ?_ | with_reducible refine Below.alloc ?_ (by first | omega | (simp; done) | (simp; omega)) _ | with_reducible refine Below.setCell ?_ (by first | omega | (simp; done) | (simp; omega)) _ | with_reducible refine below_more _ _ ?_ (by first | omega | (simp; done) | (simp; omega))))) _ _ _ _ hw' hcb' (by simp [Region.binds]))) | (obtain ⟨gx, rfl⟩ := more_of_below (Ext.below hw'); go_simp; exact rfl))); clear hK K); (refine Own2.lexM_val rfl (fun K hK => ?_); go_simp; (try go_bits); refine ⟨fun w' hw' hcb' => ?_, hK _ ?_⟩; (focus (first | with_reducible exact rfl | (go_at_call 13; (with_reducible exact (lquat_any _ _ _ _ _))) | (go_at_call 15; (exact HSAME.out _ (by (repeat (first | with_reducible assumption | with_reducible exact Below.refl _ _ | with_reducible refine Below.drewN ?_ _ | with_reducible refine Below.drew ?_ | with_reducible refine Below.alloc ?_ (by first | omega | (simp; done) | (simp; omega)) _ | with_reducible refine Below.setCell ?_ (by first | omega | (simp; done) | (simp; omega)) _ | with_reducible refine below_more _ _ ?_ (by first | omega | (simp; done) | (simp; omega))))) _ _ _ _ hw' hcb' (by simp [Region.binds]))) | (obtain ⟨gx, rfl⟩ := more_of_below (Ext.below hw'); go_simp; exact rfl))); clear hK K); (refine Own2.lexM_val rfl (fun K hK => ?_); go_simp; (try go_bits); refine ⟨fun w' hw' hcb' => ?_, hK _ ?_⟩; (focus (first | with_reducible exact rfl | (go_at_call 13; (with_reducible exact (lquat_any _ _ _ _ _))) | (go_at_call 15; (exact HSAME.out _ (by (repeat (first | with_reducible assumption | with_reducible exact Below.refl _ _ | with_reducible refine Below.drewN ?_ _ | with_reducible refine Below.drew ?_ | with_reducible refine Below.alloc ?_ (by first | omega | (simp; done) | (simp; omega)) _ | with_reducible refine Below.setCell ?_ (by first | omega | (simp; done) | (simp; omega)) _ | with_reducible refine below_more _ _ ?_ (by first | omega | (simp; done) | (simp; omega))))) _ _ _ _ hw' hcb' (by simp [Region.binds]))) | (obtain ⟨gx, rfl⟩ := more_of_below (Ext.below hw'); go_simp; exact rfl))); clear hK K); (refine Own2.lexM_mem rfl ?_ (fun w => by first | rfl | (go_simp; rfl) | (go_simp; done)) (fun b51 hb51 hn51 => ?_); (focus (first | rfl | (go_simp <;> rfl) | decide)); simp only [Act.put, List.setIfInBounds_toArray, List.set_cons_succ, List.set_cons_zero]); (refine Own2.lexM_val rfl (fun K hK => ?_); go_simp; (try go_bits); refine ⟨fun w' hw' hcb' => ?_, hK _ ?_⟩; (focus (first | with_reducible exact rfl | (go_at_call 13; (with_reducible exact (lquat_any _ _ _ _ _))) | (go_at_call 15; (exact HSAME.out _ (by (repeat (first | with_reducible assumption | with_reducible exact Below.refl _ _ | with_reducible refine Below.drewN ?_ _ | with_reducible refine Below.drew ?_ | with_reducible refine Below.alloc ?_ (by first | omega | (simp; done) | (simp; omega)) _ | with_reducible refine Below.setCell ?_ (by first | omega | (simp; done) | (simp; omega)) _ | with_reducible refine below_more _ _ ?_ (by first | omega | (simp; done) | (simp; omega))))) _ _ _ _ hw' hcb' (by simp [Region.binds]))) | (obtain ⟨gx, rfl⟩ := more_of_below (Ext.below hw'); go_simp; exact rfl))); clear hK K); (refine Own2.lexM_val rfl (fun K hK => ?_); go_simp; (try go_bits); refine ⟨fun w' hw' hcb' => ?_, hK _ ?_⟩; (focus (first | with_reducible exact rfl | (go_at_call 13; (with_reducible exact (lquat_any _ _ _ _ _))) | (go_at_call 15; (exact HSAME.out _ (by (repeat (first | with_reducible assumption | with_reducible exact Below.refl _ _ | with_reducible refine Below.drewN ?_ _ | with_reducible refine Below.drew ?_ | with_reducible refine Below.alloc ?_ (by first | omega | (simp; done) | (simp; omega)) _ | with_reducible refine Below.setCell ?_ (by first | omega | (simp; done) | (simp; omega)) _ | with_reducible refine below_more _ _ ?_ (by first | omega | (simp; done) | (simp; omega))))) _ _ _ _ hw' hcb' (by simp [Region.binds]))) | (obtain ⟨gx, rfl⟩ := more_of_below (Ext.below hw'); go_simp; exact rfl))); clear hK K); (refine Own2.lexM_val rfl (fun K hK => ?_); go_simp; (try go_bits); refine ⟨fun w' hw' hcb' => ?_, hK _ ?_⟩; (focus (first | with_reducible exact rfl | (go_at_call 13; (with_reducible exact (lquat_any _ _ _ _ _))) | (go_at_call 15; (exact HSAME.out _ (by (repeat (first | with_reducible assumption | with_reducible exact Below.refl _ _ | with_reducible refine Below.drewN ?_ _ | with_reducible refine Below.drew ?_ | with_reducible refine Below.alloc ?_ (by first | omega | (simp; done) | (simp; omega)) _ | with_reducible refine Below.setCell ?_ (by first | omega | (simp; done) | (simp; omega)) _ | with_reducible refine below_more _ _ ?_ (by first | omega | (simp; done) | (simp; omega))))) _ _ _ _ hw' hcb' (by simp [Region.binds]))) | (obtain ⟨gx, rfl⟩ := more_of_below (Ext.below hw'); go_simp; exact rfl))); clear hK K); (refine Own2.lexM_val rfl (fun K hK => ?_); go_simp; (try go_bits); refine ⟨fun w' hw' hcb' => ?_, hK _ ?_⟩; (focus (first | with_reducible exact rfl | (go_at_call 13; (with_reducible exact (lquat_any _ _ _ _ _))) | (go_at_call 15; (exact HSAME.out _ (by (repeat (first | with_reducible assumption | with_reducible exact Below.refl _ _ | with_reducible refine Below.drewN ?_ _ | with_reducible refine Below.drew ?_ | with_reducible refine Below.alloc ?_ (by first | omega | (simp; done) | (simp; omega)) _ | with_reducible refine Below.setCell ?_ (by first | omega | (simp; done) | (simp; omega)) _ | with_reducible refine below_more _ _ ?_ (by first | omega | (simp; done) | (simp; omega))))) _ _ _ _ hw' hcb' (by simp [Region.binds]))) | (obtain ⟨gx, rfl⟩ := more_of_below (Ext.below hw'); go_simp; exact rfl))); clear hK K); (refine Own2.lexM_val rfl (fun K hK => ?_); go_simp; (try go_bits); refine ⟨fun w' hw' hcb' => ?_, hK _ ?_⟩; (focus (first | with_reducible exact rfl | (go_at_call 13; (with_reducible exact (lquat_any _ _ _ _ _))) | (go_at_call 15; (exact HSAME.out _ (by (repeat (first | with_reducible assumption | with_reducible exact Below.refl _ _ | with_reducible refine Below.drewN ?_ _ | with_reducible refine Below.drew ?_ | with_reducible refine Below.alloc ?_ (by first | omega | (simp; done) | (simp; omega)) _ | with_reducible refine Below.setCell ?_ (by first | omega | (simp; done) | (simp; omega)) _ | with_reducible refine below_more _ _ ?_ (by first | omega | (simp; done) | (simp; omega))))) _ _ _ _ hw' hcb' (by simp [Region.binds]))) | (obtain ⟨gx, rfl⟩ := more_of_below (Ext.below hw'); go_simp; exact rfl))); clear hK K); (refine Own2.lexM_val rfl (fun K hK => ?_); go_simp; (try go_bits); refine ⟨fun w' hw' hcb' => ?_, hK _ ?_⟩; (focus (first | with_reducible exact rfl | (go_at_call 13; (with_reducible exact (lquat_any _ _ _ _ _))) | (go_at_call 15; (exact HSAME.out _ (by (repeat (first | with_reducible assumption | with_reducible exact Below.refl _ _ | with_reducible refine Below.drewN ?_ _ | with_reducible refine Below.drew ?_ | with_reducible refine Below.alloc ?_ (by first | omega | (simp; done) | (simp; omega)) _ | with_reducible refine Below.setCell ?_ (by first | omega | (simp; done) | (simp; omega)) _ | with_reducible refine below_more _ _ ?_ (by first | omega | (simp; done) | (simp; omega))))) _ _ _ _ hw' hcb' (by simp [Region.binds]))) | (obtain ⟨gx, rfl⟩ := more_of_below (Ext.below hw'); go_simp; exact rfl))); clear hK K); (refine Own2.lexM_val rfl (fun K hK => ?_); go_simp; (try go_bits); refine ⟨fun w' hw' hcb' => ?_, hK _ ?_⟩; (focus (first | with_reducible exact rfl | (go_at_call 13; (with_reducible exact (lquat_any _ _ _ _ _))) | (go_at_call 15; (exact HSAME.out _ (by (repeat (first | with_reducible assumption | with_reducible exact Below.refl _ _ | with_reducible refine Below.drewN ?_ _ | with_reducible refine Below.drew ?_ | with_reducible refine Below.alloc ?_ (by first | omega | (simp; done) | (simp; omega)) _ | with_reducible refine Below.setCell ?_ (by first | omega | (simp; done) | (simp; omega)) _ | with_reducible refine below_more _ _ ?_ (by first | omega | (simp; done) | (simp; omega))))) _ _ _ _ hw' hcb' (by simp [Region.binds]))) | (obtain ⟨gx, rfl⟩ := more_of_below (Ext.below hw'); go_simp; exact rfl))); clear hK K); (refine Own2.lexM_val rfl (fun K hK => ?_); go_simp; (try go_bits); refine ⟨fun w' hw' hcb' => ?_, hK _ ?_⟩; (focus (first | with_reducible exact rfl | (go_at_call 13; (with_reducible exact (lquat_any _ _ _ _ _))) | (go_at_call 15; (exact HSAME.out _ (by (repeat (first | with_reducible assumption | with_reducible exact Below.refl _ _ | with_reducible refine Below.drewN ?_ _ | with_reducible refine Below.drew ?_ | with_reducible refine Below.alloc ?_ (by first | omega | (simp; done) | (simp; omega)) _ | with_reducible refine Below.setCell ?_ (by first | omega | (simp; done) | (simp; omega)) _ | with_reducible refine below_more _ _ ?_ (by first | omega | (simp; done) | (simp; omega))))) _ _ _ _ hw' hcb' (by simp [Region.binds]))) | (obtain ⟨gx, rfl⟩ := more_of_below (Ext.below hw'); go_simp; exact rfl))); clear hK K); (refine Own2.lexM_val rfl (fun K hK => ?_); go_simp; (try go_bits); refine ⟨fun w' hw' hcb' => ?_, hK _ ?_⟩; (focus (first | with_reducible exact rfl | (go_at_call 13; (with_reducible exact (lquat_any _ _ _ _ _))) | (go_at_call 15; (exact HSAME.out _ (by (repeat (first | with_reducible assumption | with_reducible exact Below.refl _ _ | with_reducible refine Below.drewN ?_ _ | with_reducible refine Below.drew ?_ | with_reducible refine Below.alloc ?_ (by first | omega | (simp; done) | (simp; omega)) _ | with_reducible refine Below.setCell ?_ (by first | omega | (simp; done) | (simp; omega)) _ | with_reducible refine below_more _ _ ?_ (by first | omega | (simp; done) | (simp; omega))))) _ _ _ _ hw' hcb' (by simp [Region.binds]))) | (obtain ⟨gx, rfl⟩ := more_of_below (Ext.below hw'); go_simp; exact rfl))); clear hK K); (refine Own2.lexM_val rfl (fun K hK => ?_); go_simp; (try go_bits); refine ⟨fun w' hw' hcb' => ?_, hK _ ?_⟩; (focus (first | with_reducible exact rfl | (go_at_call 13; (with_reducible exact (lquat_any _ _ _ _ _))) | (go_at_call 15; (exact HSAME.out _ (by (repeat (first | with_reducible assumption | with_reducible exact Below.refl _ _ | with_reducible refine Below.drewN ?_ _ | with_reducible refine Below.drew ?_ | with_reducible refine Below.alloc ?_ (by first | omega | (simp; done) | (simp; omega)) _ | with_reducible refine Below.setCell ?_ (by first | omega | (simp; done) | (simp; omega)) _ | with_reducible refine below_more _ _ ?_ (by first | omega | (simp; done) | (simp; omega))))) _ _ _ _ hw' hcb' (by simp [Region.binds]))) | (obtain ⟨gx, rfl⟩ := more_of_below (Ext.below hw'); go_simp; exact rfl))); clear hK K); (refine Own2.lexM_val rfl (fun K hK => ?_); go_simp; (try go_bits); refine ⟨fun w' hw' hcb' => ?_, hK _ ?_⟩; (focus (first | with_reducible exact rfl | (go_at_call 13; (with_reducible exact (lquat_any _ _ _ _ _))) | (go_at_call 15; (exact HSAME.out _ (by (repeat (first | with_reducible assumption | with_reducible exact Below.refl _ _ | with_reducible refine Below.drewN ?_ _ | with_reducible refine Below.drew ?_ | with_reducible refine Below.alloc ?_ (by first | omega | (simp; done) | (simp; omega)) _ | with_reducible refine Below.setCell ?_ (by first | omega | (simp; done) | (simp; omega)) _ | with_reducible refine below_more _ _ ?_ (by first | omega | (simp; done) | (simp; omega))))) _ _ _ _ hw' hcb' (by simp [Region.binds]))) | (obtain ⟨gx, rfl⟩ := more_of_below (Ext.below hw'); go_simp; exact rfl))); clear hK K); (refine Own2.lexM_val rfl (fun K hK => ?_); go_simp; (try go_bits); refine ⟨fun w' hw' hcb' => ?_, hK _ ?_⟩; (focus (first | with_reducible exact rfl | (go_at_call 13; (with_reducible exact (lquat_any _ _ _ _ _))) | (go_at_call 15; (exact HSAME.out _ (by (repeat (first | with_reducible assumption | with_reducible exact Below.refl _ _ | with_reducible refine Below.drewN ?_ _ | with_reducible refine Below.drew ?_ | with_reducible refine Below.alloc ?_ (by first | omega | (simp; done) | (simp; omega)) _ | with_reducible refine Below.setCell ?_ (by first | omega | (simp; done) | (simp; omega)) _ | with_reducible refine below_more _ _ ?_ (by first | omega | (simp; done) | (simp; omega))))) _ _ _ _ hw' hcb' (by simp [Region.binds]))) | (obtain ⟨gx, rfl⟩ := more_of_below (Ext.below hw'); go_simp; exact rfl))); clear hK K); (refine Own2.lexM_val rfl (fun K hK => ?_); go_simp; (try go_bits); refine ⟨fun w' hw' hcb' => ?_, hK _ ?_⟩; (focus (first | with_reducible exact rfl | (go_at_call 13; (with_reducible exact (lquat_any _ _ _ _ _))) | (go_at_call 15; (exact HSAME.out _ (by (repeat (first | with_reducible assumption | with_reducible exact Below.refl _ _ | with_reducible refine Below.drewN ?_ _ | with_reducible refine Below.drew ?_ | with_reducible refine Below.alloc ?_ (by first | omega | (simp; done) | (simp; omega)) _ | with_reducible refine Below.setCell ?_ (by first | omega | (simp; done) | (simp; omega)) _ | with_reducible refine below_more _ _ ?_ (by first | omega | (simp; done) | (simp; omega))))) _ _ _ _ hw' hcb' (by simp [Region.binds]))) | (obtain ⟨gx, rfl⟩ := more_of_below (Ext.below hw'); go_simp; exact rfl))); clear hK K); (refine Own2.lexM_val rfl (fun K hK => ?_); go_simp; (try go_bits); refine ⟨fun w' hw' hcb' => ?_, hK _ ?_⟩; (focus (first | with_reducible exact rfl | (go_at_call 13; (with_reducible exact (lquat_any _ _ _ _ _))) | (go_at_call 15; (exact HSAME.out _ (by (repeat (first | with_reducible assumption | with_reducible exact Below.refl _ _ | with_reducible refine Below.drewN ?_ _ | with_reducible refine Below.drew ?_ | with_reducible refine Below.alloc ?_ (by first | omega | (simp; done) | (simp; omega)) _ | with_reducible refine Below.setCell ?_ (by first | omega | (simp; done) | (simp; omega)) _ | with_reducible refine below_more _ _ ?_ (by first | omega | (simp; done) | (simp; omega))))) _ _ _ _ hw' hcb' (by simp [Region.binds]))) | (obtain ⟨gx, rfl⟩ := more_of_below (Ext.below hw'); go_simp; exact rfl))); clear hK K); (refine Own2.lexM_val rfl (fun K hK => ?_); go_simp; (try go_bits); refine ⟨fun w' hw' hcb' => ?_, hK _ ?_⟩; (focus (first | with_reducible exact rfl | (go_at_call 13; (with_reducible exact (lquat_any _ _ _ _ _))) | (go_at_call 15; (exact HSAME.out _ (by (repeat (first | with_reducible assumption | with_reducible exact Below.refl _ _ | with_reducible refine Below.drewN ?_ _ | with_reducible refine Below.drew ?_ | with_reducible refine Below.alloc ?_ (by first | omega | (simp; done) | (simp; omega)) _ | with_reducible refine Below.setCell ?_ (by first | omega | (simp; done) | (simp; omega)) _ | with_reducible refine below_more _ _ ?_ (by first | omega | (simp; done) | (simp; omega))))) _ _ _ _ hw' hcb' (by simp [Region.binds]))) | (obtain ⟨gx, rfl⟩ := more_of_below (Ext.below hw'); go_simp; exact rfl))); clear hK K); (refine Own2.lexM_val rfl (fun K hK => ?_); go_simp; (try go_bits); refine ⟨fun w' hw' hcb' => ?_, hK _ ?_⟩; (focus (first | with_reducible exact rfl | (go_at_call 13; (with_reducible exact (lquat_any _ _ _ _ _))) | (go_at_call 15; (exact HSAME.out _ (by (repeat (first | with_reducible assumption | with_reducible exact Below.refl _ _ | with_reducible refine Below.drewN ?_ _ | with_reducible refine Below.drew ?_ | with_reducible refine Below.alloc ?_ (by first | omega | (simp; done) | (simp; omega)) _ | with_reducible refine Below.setCell ?_ (by first | omega | (simp; done) | (simp; omega)) _ | with_reducible refine below_more _ _ ?_ (by first | omega | (simp; done) | (simp; omega))))) _ _ _ _ hw' hcb' (by simp [Region.binds]))) | (obtain ⟨gx, rfl⟩ := more_of_below (Ext.below hw'); go_simp; exact rfl))); clear hK K); (refine Own2.lexM_val rfl (fun K hK => ?_); go_simp; (try go_bits); refine ⟨fun w' hw' hcb' => ?_, hK _ ?_⟩; (focus (first | with_reducible exact rfl | (go_at_call 13; (with_reducible exact (lquat_any _ _ _ _ _))) | (go_at_call 15; (exact HSAME.out _ (by (repeat (first | with_reducible assumption | with_reducible exact Below.refl _ _ | with_reducible refine Below.drewN ?_ _ | with_reducible refine Below.drew ?_ | with_reducible refine Below.alloc ?_ (by first | omega | (simp; done) | (simp; omega)) _ | with_reducible refine Below.setCell ?_ (by first | omega | (simp; done) | (simp; omega)) _ | with_reducible refine below_more _ _ ?_ (by first | omega | (simp; done) | (simp; omega))))) _ _ _ _ hw' hcb' (by simp [Region.binds]))) | (obtain ⟨gx, rfl⟩ := more_of_below (Ext.below hw'); go_simp; exact rfl))); clear hK K); (refine Own2.lexM_val rfl (fun K hK => ?_); go_simp; (try go_bits); refine ⟨fun w' hw' hcb' => ?_, hK _ ?_⟩; (focus (first | with_reducible exact rfl | (go_at_call 13; (with_reducible exact (lquat_any _ _ _ _ _))) | (go_at_call 15; (exact HSAME.out _ (by (repeat (first | with_reducible assumption | with_reducible exact Below.refl _ _ | with_reducible refine Below.drewN ?_ _ | with_reducible refine Below.drew ?_ | with_reducible refine Below.alloc ?_ (by first | omega | (simp; done) | (simp; omega)) _ | with_reducible refine Below.setCell ?_ (by first | omega | (simp; done) | (simp; omega)) _ | with_reducible refine below_more _ _ ?_ (by first | omega | (simp; done) | (simp; omega))))) _ _ _ _ hw' hcb' (by simp [Region.binds]))) | (obtain ⟨gx, rfl⟩ := more_of_below (Ext.below hw'); go_simp; exact rfl))); clear hK K); (refine Own2.lexM_val rfl (fun K hK => ?_); go_simp; (try go_bits); refine ⟨fun w' hw' hcb' => ?_, hK _ ?_⟩; (focus (first | with_reducible exact rfl | (go_at_call 13; (with_reducible exact (lquat_any _ _ _ _ _))) | (go_at_call 15; (exact HSAME.out _ (by (repeat (first | with_reducible assumption | with_reducible exact Below.refl _ _ | with_reducible refine Below.drewN ?_ _ | with_reducible refine Below.drew ?_ | with_reducible refine Below.alloc ?_ (by first | omega | (simp; done) | (simp; omega)) _ | with_reducible refine Below.setCell ?_ (by first | omega | (simp; done) | (simp; omega)) _ | with_reducible refine below_more _ _ ?_ (by first | omega | (simp; done) | (simp; omega))))) _ _ _ _ hw' hcb' (by simp [Region.binds]))) | (obtain ⟨gx, rfl⟩ := more_of_below (Ext.below hw'); go_simp; exact rfl))); clear hK K); (refine Own2.lexM_val rfl (fun K hK => ?_); go_simp; (try go_bits); refine ⟨fun w' hw' hcb' => ?_, hK _ ?_⟩; (focus (first | with_reducible exact rfl | (go_at_call 13; (with_reducible exact (lquat_any _ _ _ _ _))) | (go_at_call 15; (exact HSAME.out _ (by (repeat (first | with_reducible assumption | with_reducible exact Below.refl _ _ | with_reducible refine Below.drewN ?_ _ | with_reducible refine Below.drew ?_ | with_reducible refine Below.alloc ?_ (by first | omega | (simp; done) | (simp; omega)) _ | with_reducible refine Below.setCell ?_ (by first | omega | (simp; done) | (simp; omega)) _ | with_reducible refine below_more _ _ ?_ (by first | omega | (simp; done) | (simp; omega))))) _ _ _ _ hw' hcb' (by simp [Region.binds]))) | (obtain ⟨gx, rfl⟩ := more_of_below (Ext.below hw'); go_simp; exact rfl))); clear hK K); (refine Own2.lexM_val rfl (fun K hK => ?_); go_simp; (try go_bits); refine ⟨fun w' hw' hcb' => ?_, hK _ ?_⟩; (focus (first | with_reducible exact rfl | (go_at_call 13; (with_reducible exact (lquat_any _ _ _ _ _))) | (go_at_call 15; (exact HSAME.out _ (by (repeat (first | with_reducible assumption | with_reducible exact Below.refl _ _ | with_reducible refine Below.drewN ?_ _ | with_reducible refine Below.drew ?_ | with_reducible refine Below.alloc ?_ (by first | omega | (simp; done) | (simp; omega)) _ | with_reducible refine Below.setCell ?_ (by first | omega | (simp; done) | (simp; omega)) _ | with_reducible refine below_more _ _ ?_ (by first | omega | (simp; done) | (simp; omega))))) _ _ _ _ hw' hcb' (by simp [Region.binds]))) | (obtain ⟨gx, rfl⟩ := more_of_below (Ext.below hw'); go_simp; exact rfl))); clear hK K); (refine Own2.lexM_val rfl (fun K hK => ?_); go_simp; (try go_bits); refine ⟨fun w' hw' hcb' => ?_, hK _ ?_⟩; (focus (first | with_reducible exact rfl | (go_at_call 13; (with_reducible exact (lquat_any _ _ _ _ _))) | (go_at_call 15; (exact HSAME.out _ (by (repeat (first | with_reducible assumption | with_reducible exact Below.refl _ _ | with_reducible refine Below.drewN ?_ _ | with_reducible refine Below.drew ?_ | with_reducible refine Below.alloc ?_ (by first | omega | (simp; done) | (simp; omega)) _ | with_reducible refine Below.setCell ?_ (by first | omega | (simp; done) | (simp; omega)) _ | with_reducible refine below_more _ _ ?_ (by first | omega | (simp; done) | (simp; omega))))) _ _ _ _ hw' hcb' (by simp [Region.binds]))) | (obtain ⟨gx, rfl⟩ := more_of_below (Ext.below hw'); go_simp; exact rfl))); clear hK K); (refine Own2.lexM_val rfl (fun K hK => ?_); go_simp; (try go_bits); refine ⟨fun w' hw' hcb' => ?_, hK _ ?_⟩; (focus (first | with_reducible exact rfl | (go_at_call 13; (with_reducible exact (lquat_any _ _ _ _ _))) | (go_at_call 15; (exact HSAME.out _ (by (repeat (first | with_reducible assumption | with_reducible exact Below.refl _ _ | with_reducible refine Below.drewN ?_ _ | with_reducible refine Below.drew ?_ | with_reducible refine Below.alloc ?_ (by first | omega | (simp; done) | (simp; omega)) _ | with_reducible refine Below.setCell ?_ (by first | omega | (simp; done) | (simp; omega)) _ | with_reducible refine below_more _ _ ?_ (by first | omega | (simp; done) | (simp; omega))))) _ _ _ _ hw' hcb' (by simp [Region.binds]))) | (obtain ⟨gx, rfl⟩ := more_of_below (Ext.below hw'); go_simp; exact rfl))); clear hK K); (refine Own2.lexM_val rfl (fun K hK => ?_); go_simp; (try go_bits); refine ⟨fun w' hw' hcb' => ?_, hK _ ?_⟩; (focus (first | with_reducible exact rfl | (go_at_call 13; (with_reducible exact (lquat_any _ _ _ _ _))) | (go_at_call 15; (exact HSAME.out _ (by (repeat (first | with_reducible assumption | with_reducible exact Below.refl _ _ | with_reducible refine Below.drewN ?_ _ | with_reducible refine Below.drew ?_ | with_reducible refine Below.alloc ?_ (by first | omega | (simp; done) | (simp; omega)) _ | with_reducible refine Below.setCell ?_ (by first | omega | (simp; done) | (simp; omega)) _ | with_reducible refine below_more _ _ ?_ (by first | omega | (simp; done) | (simp; omega))))) _ _ _ _ hw' hcb' (by simp [Region.binds]))) | (obtain ⟨gx, rfl⟩ := more_of_below (Ext.below hw'); go_simp; exact rfl))); clear hK K); (refine Own2.lexM_val rfl (fun K hK => ?_); go_simp; (try go_bits); refine ⟨fun w' hw' hcb' => ?_, hK _ ?_⟩; (focus (first | with_reducible exact rfl | (go_at_call 13; (with_reducible exact (lquat_any _ _ _ _ _))) | (go_at_call 15; (exact HSAME.out _ (by (repeat (first | with_reducible assumption | with_reducible exact Below.refl _ _ | with_reducible refine Below.drewN ?_ _ | with_reducible refine Below.drew ?_ | with_reducible refine Below.alloc ?_ (by first | omega | (simp; done) | (simp; omega)) _ | with_reducible refine Below.setCell ?_ (by first | omega | (simp; done) | (simp; omega)) _ | with_reducible refine below_more _ _ ?_ (by first | omega | (simp; done) | (simp; omega))))) _ _ _ _ hw' hcb' (by simp [Region.binds]))) | (obtain ⟨gx, rfl⟩ := more_of_below (Ext.below hw'); go_simp; exact rfl))); clear hK K); (refine Own2.lexM_val rfl (fun K hK => ?_); go_simp; (try go_bits); refine ⟨fun w' hw' hcb' => ?_, hK _ ?_⟩; (focus (first | with_reducible exact rfl | (go_at_call 13; (with_reducible exact (lquat_any _ _ _ _ _))) | (go_at_call 15; (exact HSAME.out _ (by (repeat (first | with_reducible assumption | with_reducible exact Below.refl _ _ | with_reducible refine Below.drewN ?_ _ | with_reducible refine Below.drew ?_ | with_reducible refine Below.alloc ?_ (by first | omega | (simp; done) | (simp; omega)) _ | with_reducible refine Below.setCell ?_ (by first | omega | (simp; done) | (simp; omega)) _ | with_reducible refine below_more _ _ ?_ (by first | omega | (simp; done) | (simp; omega))))) _ _ _ _ hw' hcb' (by simp [Region.binds]))) | (obtain ⟨gx, rfl⟩ := more_of_below (Ext.below hw'); go_simp; exact rfl))); clear hK K); intro w5 hw5; have hB5 := hw5.1; clear hw5; obtain ⟨g5, rfl⟩ := more_of_below hB5; clear hB5)
  all_goals (have hB := HB1.out; have hBs := hB.size; go_wp2; go_ret; exact ⟨rfl, by (repeat (first | with_reducible assumption | with_reducible exact Below.refl _ _ | with_reducible refine Below.drewN ?_ _ | with_reducible refine Below.drew ?_ | with_reducible refine Below.alloc ?_ (by first | omega | (simp; done) | (simp; omega)) _ | with_reducible refine Below.setCell ?_ (by first | omega | (simp; done) | (simp; omega)) _ | with_reducible refine below_more _ _ ?_ (by first | omega | (simp; done) | (simp; omega))))⟩)
end Go.Proofs.YthajaabgcbjfkaaDoor
