/- Contract: a rotation in lowest terms. -/
import Derived.Test.YthajaabgcbjfkaaM1
namespace Go.Proofs.Ythajaabgcbjfkaa
open Go.RowKit

/-- All ten numbers, each within 4 * 10^18; the denominator is positive. -/
structure Rt.In (x : Rt) : Prop where
  a : -4000000000000000000 ≤ x.a ∧ x.a ≤ 4000000000000000000
  b : -4000000000000000000 ≤ x.b ∧ x.b ≤ 4000000000000000000
  c : -4000000000000000000 ≤ x.c ∧ x.c ≤ 4000000000000000000
  d : -4000000000000000000 ≤ x.d ∧ x.d ≤ 4000000000000000000
  e : -4000000000000000000 ≤ x.e ∧ x.e ≤ 4000000000000000000
  f : -4000000000000000000 ≤ x.f ∧ x.f ≤ 4000000000000000000
  g : -4000000000000000000 ≤ x.g ∧ x.g ≤ 4000000000000000000
  h : -4000000000000000000 ≤ x.h ∧ x.h ≤ 4000000000000000000
  i : -4000000000000000000 ≤ x.i ∧ x.i ≤ 4000000000000000000
  n : 1 ≤ x.n ∧ x.n ≤ 4000000000000000000
def Rt.g1 (x : Rt) : Int := g4 x.n x.a x.b x.c
def Rt.g2 (x : Rt) : Int := g4 x.g1 x.d x.e x.f
def Rt.lg (x : Rt) : Int := g4 x.g2 x.g x.h x.i
def Rt.low (x : Rt) : Rt := ⟨x.a.tdiv x.lg, x.b.tdiv x.lg, x.c.tdiv x.lg, x.d.tdiv x.lg, x.e.tdiv x.lg, x.f.tdiv x.lg, x.g.tdiv x.lg, x.h.tdiv x.lg, x.i.tdiv x.lg, x.n / x.lg⟩

theorem gcdL_dvd4 (a b c d : Int) : ∀ x ∈ [a, b, c, d], gcdL [a, b, c, d] ∣ x.natAbs := by
  intro x hx
  simp only [gcdL, List.foldl_cons, List.foldl_nil, Nat.gcd_zero_left]
  simp only [List.mem_cons, List.not_mem_nil, or_false] at hx
  have h3 : ∀ m n k : Nat, Nat.gcd (Nat.gcd m n) k ∣ m := fun m n k => Nat.dvd_trans (Nat.gcd_dvd_left _ _) (Nat.gcd_dvd_left _ _)
  have h4 : ∀ m n k : Nat, Nat.gcd (Nat.gcd m n) k ∣ n := fun m n k => Nat.dvd_trans (Nat.gcd_dvd_left _ _) (Nat.gcd_dvd_right _ _)
  rcases hx with rfl | rfl | rfl | rfl
  · exact Nat.dvd_trans (Nat.gcd_dvd_left _ _) (h3 _ _ _)
  · exact Nat.dvd_trans (Nat.gcd_dvd_left _ _) (h4 _ _ _)
  · exact h4 _ _ _
  · exact Nat.gcd_dvd_right _ _
theorem g4_dvd (a b c d : Int) : g4 a b c d ∣ a ∧ g4 a b c d ∣ b ∧ g4 a b c d ∣ c ∧ g4 a b c d ∣ d := by
  have k : ∀ x ∈ [a, b, c, d], g4 a b c d ∣ x := fun x hx => Int.ofNat_dvd_left.2 (gcdL_dvd4 a b c d x hx)
  exact ⟨k _ (by simp), k _ (by simp), k _ (by simp), k _ (by simp)⟩
theorem g4_le {a b c d : Int} (h : 1 ≤ a) : 1 ≤ g4 a b c d ∧ g4 a b c d ≤ a := by
  have h1 := (g4_dvd a b c d).1
  have h2 := Int.le_of_dvd (by omega) h1
  have h3 : 0 ≤ g4 a b c d := by unfold g4; omega
  refine ⟨?_, h2⟩
  apply Int.not_lt.1
  intro hc
  have : g4 a b c d = 0 := by omega
  rw [this] at h1
  have := Int.zero_dvd.1 h1
  omega

set_option maxRecDepth 100000 in
set_option maxHeartbeats 4000000 in
theorem lowest_any (x : Rt) (h : x.In) (w : World) :
    Calls Try.prog 101 #[.agg #[.int .i64 x.a, .int .i64 x.b, .int .i64 x.c, .int .i64 x.d, .int .i64 x.e, .int .i64 x.f, .int .i64 x.g, .int .i64 x.h, .int .i64 x.i], .int .i64 x.n] w fun e w' => (1000000 < x.low.n → e = .returned (.tuple #[.agg #[.int .i64 0, .int .i64 0, .int .i64 0, .int .i64 0, .int .i64 0, .int .i64 0, .int .i64 0, .int .i64 0, .int .i64 0, .int .i64 0], .int .i64 8])) ∧ (x.low.n ≤ 1000000 → e = .returned (.tuple #[.agg #[.int .i64 x.low.a, .int .i64 x.low.b, .int .i64 x.low.c, .int .i64 x.low.d, .int .i64 x.low.e, .int .i64 x.low.f, .int .i64 x.low.g, .int .i64 x.low.h, .int .i64 x.low.i, .int .i64 x.low.n], .int .i64 0])) ∧ Below w.heap.size w w' := by
  have l1 : 1 ≤ x.g1 ∧ x.g1 ≤ x.n := g4_le h.n.1
  have l2 : 1 ≤ x.g2 ∧ x.g2 ≤ x.g1 := g4_le l1.1
  have l3 : 1 ≤ x.lg ∧ x.lg ≤ x.g2 := g4_le l2.1
  have hl : x.low = ⟨x.a.tdiv x.lg, x.b.tdiv x.lg, x.c.tdiv x.lg, x.d.tdiv x.lg, x.e.tdiv x.lg, x.f.tdiv x.lg, x.g.tdiv x.lg, x.h.tdiv x.lg, x.i.tdiv x.lg, x.n / x.lg⟩ := rfl
  have G1 : ∀ w b cap, b < w.heap.size → w.cell? ⟨b, 0, none⟩ = some (.int .i64 x.n) → w.cell? ⟨b, 1, none⟩ = some (.int .i64 x.a) → w.cell? ⟨b, 2, none⟩ = some (.int .i64 x.b) → w.cell? ⟨b, 3, none⟩ = some (.int .i64 x.c) →
      Calls Try.prog 81 #[.slice (some ⟨b, 0, none⟩) 4 cap] w fun e w' => e = .returned (.int .i64 x.g1) ∧ Below w.heap.size w w' :=
    fun w b cap hb c0 c1 c2 c3 => gcd4_in b cap x.n x.a x.b x.c w hb c0 c1 c2 c3 (by have := h.n; omega) (by have := h.a; omega) (by have := h.b; omega) (by have := h.c; omega)
  have G2 : ∀ w b cap, b < w.heap.size → w.cell? ⟨b, 0, none⟩ = some (.int .i64 x.g1) → w.cell? ⟨b, 1, none⟩ = some (.int .i64 x.d) → w.cell? ⟨b, 2, none⟩ = some (.int .i64 x.e) → w.cell? ⟨b, 3, none⟩ = some (.int .i64 x.f) →
      Calls Try.prog 81 #[.slice (some ⟨b, 0, none⟩) 4 cap] w fun e w' => e = .returned (.int .i64 x.g2) ∧ Below w.heap.size w w' :=
    fun w b cap hb c0 c1 c2 c3 => gcd4_in b cap x.g1 x.d x.e x.f w hb c0 c1 c2 c3 (by have := h.n; omega) (by have := h.d; omega) (by have := h.e; omega) (by have := h.f; omega)
  have G3 : ∀ w b cap, b < w.heap.size → w.cell? ⟨b, 0, none⟩ = some (.int .i64 x.g2) → w.cell? ⟨b, 1, none⟩ = some (.int .i64 x.g) → w.cell? ⟨b, 2, none⟩ = some (.int .i64 x.h) → w.cell? ⟨b, 3, none⟩ = some (.int .i64 x.i) →
      Calls Try.prog 81 #[.slice (some ⟨b, 0, none⟩) 4 cap] w fun e w' => e = .returned (.int .i64 x.lg) ∧ Below w.heap.size w w' :=
    fun w b cap hb c0 c1 c2 c3 => gcd4_in b cap x.g2 x.g x.h x.i w hb c0 c1 c2 c3 (by have := h.n; omega) (by have := h.g; omega) (by have := h.h; omega) (by have := h.i; omega)
  obtain ⟨p0, p1⟩ := Qt.tdiv_bd _ x.lg _ (by omega) l3.1 h.a
  obtain ⟨p2, p3⟩ := Qt.tdiv_bd _ x.lg _ (by omega) l3.1 h.b
  obtain ⟨p4, p5⟩ := Qt.tdiv_bd _ x.lg _ (by omega) l3.1 h.c
  obtain ⟨p6, p7⟩ := Qt.tdiv_bd _ x.lg _ (by omega) l3.1 h.d
  obtain ⟨p8, p9⟩ := Qt.tdiv_bd _ x.lg _ (by omega) l3.1 h.e
  obtain ⟨q0, q1⟩ := Qt.tdiv_bd _ x.lg _ (by omega) l3.1 h.f
  obtain ⟨q2, q3⟩ := Qt.tdiv_bd _ x.lg _ (by omega) l3.1 h.g
  obtain ⟨q4, q5⟩ := Qt.tdiv_bd _ x.lg _ (by omega) l3.1 h.h
  obtain ⟨q6, q7⟩ := Qt.tdiv_bd _ x.lg _ (by omega) l3.1 h.i
  obtain ⟨n1, n2⟩ := h.n
  obtain ⟨l3a, l3b⟩ := l3
  have ln : ¬ x.lg = 0 := by omega
  have hnn := Int.ediv_le_self x.lg (show 0 ≤ x.n by omega)
  have hn0 : 0 ≤ x.n / x.lg := Int.ediv_nonneg (by omega) (by omega)
  clear l1 l2 h l3b
  generalize x.low = y at *
  generalize x.lg = lg at *
  generalize x.g1 = g1 at *
  generalize x.g2 = g2 at *
  subst hl
  obtain ⟨xa, xb, xc, xd, xe, xf, xg, xh, xi, xn⟩ := x
  simp only at *
  have HG1 := Lib.hid G1
  have HG2 := Lib.hid G2
  have HG3 := Lib.hid G3
  clear G1 G2 G3
  have j0 : ∀ (a b c d e f g h i : Int) (w : World), (Instr.index 66 (.agg #[.int .i64 a, .int .i64 b, .int .i64 c, .int .i64 d, .int .i64 e, .int .i64 f, .int .i64 g, .int .i64 h, .int .i64 i]) (.int .i64 0)).run Try.prog w = .ok (.agg #[.int .i64 a, .int .i64 b, .int .i64 c]) w := fun _ _ _ _ _ _ _ _ _ _ => by kernel_rfl
  have j1 : ∀ (a b c d e f g h i : Int) (w : World), (Instr.index 66 (.agg #[.int .i64 a, .int .i64 b, .int .i64 c, .int .i64 d, .int .i64 e, .int .i64 f, .int .i64 g, .int .i64 h, .int .i64 i]) (.int .i64 1)).run Try.prog w = .ok (.agg #[.int .i64 d, .int .i64 e, .int .i64 f]) w := fun _ _ _ _ _ _ _ _ _ _ => by kernel_rfl
  have j2 : ∀ (a b c d e f g h i : Int) (w : World), (Instr.index 66 (.agg #[.int .i64 a, .int .i64 b, .int .i64 c, .int .i64 d, .int .i64 e, .int .i64 f, .int .i64 g, .int .i64 h, .int .i64 i]) (.int .i64 2)).run Try.prog w = .ok (.agg #[.int .i64 g, .int .i64 h, .int .i64 i]) w := fun _ _ _ _ _ _ _ _ _ _ => by kernel_rfl
  go_enter Try.func101, Try.ntmps101
  go_wp2
  refine wp_loop_rounds 4 ?_
  rw [rounds_succ]
  go_wp2_with (go_at_call 81; refine (HG1.out _ _ _ ?_ ?_ ?_ ?_ ?_).mono ?_; (iterate 5 (focus (go_simp; done))); rintro e w1 ⟨rfl, hb1⟩; obtain ⟨v1, rfl⟩ := more_of_below hb1; clear hb1)
  rw [rounds_succ]
  go_wp2_with (go_at_call 81; refine (HG2.out _ _ _ ?_ ?_ ?_ ?_ ?_).mono ?_; (iterate 5 (focus (go_simp; done))); rintro e w2 ⟨rfl, hb2⟩; obtain ⟨v2, rfl⟩ := more_of_below hb2; clear hb2)
  rw [rounds_succ]
  go_wp2_with (go_at_call 81; refine (HG3.out _ _ _ ?_ ?_ ?_ ?_ ?_).mono ?_; (iterate 5 (focus (go_simp; done))); rintro e w3 ⟨rfl, hb3⟩; obtain ⟨v3, rfl⟩ := more_of_below hb3; clear hb3)
  clear HG1 HG2 HG3
  rw [rounds_succ]
  go_wp2
  refine wp_loop_rounds 4 ?_
  iterate 3 (rw [rounds_succ]; go_wp2; refine wp_loop_rounds 4 ?_; (iterate 3 (rw [rounds_succ]; go_wp2; go_region; go_wp2)); rw [rounds_succ]; go_wp2)
  rw [rounds_succ]
  go_wp2
  · refine bodyPost_ret (v := .tuple #[.agg #[.int .i64 0, .int .i64 0, .int .i64 0, .int .i64 0, .int .i64 0, .int .i64 0, .int .i64 0, .int .i64 0, .int .i64 0, .int .i64 0], .int .i64 8]) (by simp [results, Try.results101, go_sem]) rfl ⟨fun _ => rfl, fun h => by omega, ?_⟩
    (repeat (first | with_reducible assumption | with_reducible exact Below.refl _ _ | with_reducible refine Below.drewN ?_ _ | with_reducible refine Below.drew ?_ | with_reducible refine Below.alloc ?_ (by first | omega | (simp; done) | (simp; omega)) _ | with_reducible refine Below.setCell ?_ (by first | omega | (simp; done) | (simp; omega)) _ | with_reducible refine below_more _ _ ?_ (by first | omega | (simp; done) | (simp; omega))))
  · go_region
    go_wp2
    refine bodyPost_ret (v := .tuple #[.agg #[.int .i64 (xa.tdiv lg), .int .i64 (xb.tdiv lg), .int .i64 (xc.tdiv lg), .int .i64 (xd.tdiv lg), .int .i64 (xe.tdiv lg), .int .i64 (xf.tdiv lg), .int .i64 (xg.tdiv lg), .int .i64 (xh.tdiv lg), .int .i64 (xi.tdiv lg), .int .i64 (xn / lg)], .int .i64 0]) (by simp [results, Try.results101, go_sem]) rfl ⟨fun h => by omega, fun _ => rfl, ?_⟩
    (repeat (first | with_reducible assumption | with_reducible exact Below.refl _ _ | with_reducible refine Below.drewN ?_ _ | with_reducible refine Below.drew ?_ | with_reducible refine Below.alloc ?_ (by first | omega | (simp; done) | (simp; omega)) _ | with_reducible refine Below.setCell ?_ (by first | omega | (simp; done) | (simp; omega)) _ | with_reducible refine below_more _ _ ?_ (by first | omega | (simp; done) | (simp; omega))))
end Go.Proofs.Ythajaabgcbjfkaa
