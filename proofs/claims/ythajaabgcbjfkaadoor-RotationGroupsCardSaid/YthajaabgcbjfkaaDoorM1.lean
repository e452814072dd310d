/- Plain: rotations: lowest terms, products, the quaternion of a rotation. -/
import Derived.Test.YthajaabgcbjfkaaDoorT1
namespace Go.Proofs.YthajaabgcbjfkaaDoor
open Go.RowKit

namespace Rt
theorem ext' {x y : Rt} (h0 : x.a = y.a) (h1 : x.b = y.b) (h2 : x.c = y.c) (h3 : x.d = y.d) (h4 : x.e = y.e) (h5 : x.f = y.f) (h6 : x.g = y.g) (h7 : x.h = y.h) (h8 : x.i = y.i) (h9 : x.n = y.n) : x = y := by
  cases x; cases y; simp_all
def sc (c : Int) (x : Rt) : Rt := ⟨c * x.a, c * x.b, c * x.c, c * x.d, c * x.e, c * x.f, c * x.g, c * x.h, c * x.i, c * x.n⟩
/-- A number divides all ten. -/
structure Dv (k : Int) (x : Rt) : Prop where
  a : k ∣ x.a
  b : k ∣ x.b
  c : k ∣ x.c
  d : k ∣ x.d
  e : k ∣ x.e
  f : k ∣ x.f
  g : k ∣ x.g
  h : k ∣ x.h
  i : k ∣ x.i
  n : k ∣ x.n
theorem lg_dv (x : Rt) : Dv x.lg x := by
  obtain ⟨p0, p1, p2, p3⟩ := g4_dvd x.g2 x.g x.h x.i
  obtain ⟨q0, q1, q2, q3⟩ := g4_dvd x.g1 x.d x.e x.f
  obtain ⟨r0, r1, r2, r3⟩ := g4_dvd x.n x.a x.b x.c
  have s : x.lg ∣ x.g2 := p0
  have t : x.g2 ∣ x.g1 := q0
  have u : x.lg ∣ x.g1 := Int.dvd_trans s t
  exact ⟨Int.dvd_trans u r1, Int.dvd_trans u r2, Int.dvd_trans u r3, Int.dvd_trans s q1, Int.dvd_trans s q2, Int.dvd_trans s q3, p1, p2, p3, Int.dvd_trans u r0⟩
theorem dv_lg {d : Int} {x : Rt} (h : Dv d x) : d ∣ x.lg :=
  dvd_g4 (dvd_g4 (dvd_g4 h.n h.a h.b h.c) h.d h.e h.f) h.g h.h h.i
theorem lg_pos {x : Rt} (h : 1 ≤ x.n) : 1 ≤ x.lg ∧ x.lg ≤ x.n := by
  have h1 := g4_le (b := x.a) (c := x.b) (d := x.c) h
  have h2 := g4_le (a := x.g1) (b := x.d) (c := x.e) (d := x.f) h1.1
  have h3 := g4_le (a := x.g2) (b := x.g) (c := x.h) (d := x.i) h2.1
  exact ⟨h3.1, Int.le_trans h3.2 (Int.le_trans h2.2 h1.2)⟩
theorem low_eq {x : Rt} (_h : 1 ≤ x.n) : x = sc x.lg x.low := by
  have t : ∀ a : Int, x.lg ∣ a → a = x.lg * a.tdiv x.lg := fun a ha => tdiv_dvd ha
  have d := lg_dv x
  exact ext' (t _ d.a) (t _ d.b) (t _ d.c) (t _ d.d) (t _ d.e) (t _ d.f) (t _ d.g) (t _ d.h) (t _ d.i) (Int.mul_ediv_cancel' d.n).symm
theorem low_n {x : Rt} (h : 1 ≤ x.n) : 1 ≤ x.low.n ∧ x.low.n ≤ x.n := by
  have hg := lg_pos h
  have e : x.n = x.lg * x.low.n := congrArg Rt.n (low_eq h)
  have h1 : 1 ≤ x.low.n := by
    apply Int.not_lt.1; intro hc
    have := Int.mul_le_mul_of_nonneg_left (show x.low.n ≤ 0 by omega) (show 0 ≤ x.lg by omega)
    omega
  refine ⟨h1, ?_⟩
  have := Int.mul_le_mul_of_nonneg_right hg.1 (show 0 ≤ x.low.n by omega)
  omega
theorem sc_sc (c k : Int) (x : Rt) : sc c (sc k x) = sc (c * k) x := by
  apply ext' <;> exact (Int.mul_assoc ..).symm
theorem sc_inj {c : Int} (hc : c ≠ 0) {x y : Rt} (h : sc c x = sc c y) : x = y := by
  have e : ∀ a b : Int, c * a = c * b → a = b := fun a b h => Int.eq_of_mul_eq_mul_left hc h
  exact ext' (e _ _ (congrArg Rt.a h)) (e _ _ (congrArg Rt.b h)) (e _ _ (congrArg Rt.c h)) (e _ _ (congrArg Rt.d h)) (e _ _ (congrArg Rt.e h)) (e _ _ (congrArg Rt.f h)) (e _ _ (congrArg Rt.g h)) (e _ _ (congrArg Rt.h h)) (e _ _ (congrArg Rt.i h)) (e _ _ (congrArg Rt.n h))
theorem dv_sc {c d : Int} {x : Rt} (h : Dv d x) : Dv (c * d) (sc c x) :=
  ⟨Int.mul_dvd_mul_left c h.a, Int.mul_dvd_mul_left c h.b, Int.mul_dvd_mul_left c h.c, Int.mul_dvd_mul_left c h.d, Int.mul_dvd_mul_left c h.e, Int.mul_dvd_mul_left c h.f, Int.mul_dvd_mul_left c h.g, Int.mul_dvd_mul_left c h.h, Int.mul_dvd_mul_left c h.i, Int.mul_dvd_mul_left c h.n⟩
theorem dv_of_sc {c d : Int} (hc : c ≠ 0) {x : Rt} (h : Dv (c * d) (sc c x)) : Dv d x := by
  have e : ∀ a : Int, c * d ∣ c * a → d ∣ a := fun a h => Int.dvd_of_mul_dvd_mul_left hc h
  exact ⟨e _ h.a, e _ h.b, e _ h.c, e _ h.d, e _ h.e, e _ h.f, e _ h.g, e _ h.h, e _ h.i, e _ h.n⟩
theorem dv_all (c : Int) (x : Rt) : Dv c (sc c x) := ⟨⟨_, rfl⟩, ⟨_, rfl⟩, ⟨_, rfl⟩, ⟨_, rfl⟩, ⟨_, rfl⟩, ⟨_, rfl⟩, ⟨_, rfl⟩, ⟨_, rfl⟩, ⟨_, rfl⟩, ⟨_, rfl⟩⟩
theorem lg_sc {m : Int} (hm : 1 ≤ m) (x : Rt) : (sc m x).lg ∣ m * x.lg := by
  obtain ⟨k, hk⟩ := dv_lg (dv_all m x)
  have h := lg_dv (sc m x)
  rw [hk] at h ⊢
  exact Int.mul_dvd_mul_left m (dv_lg (dv_of_sc (by omega) h))
theorem lg_low {x : Rt} (h : 1 ≤ x.n) : x.low.lg = 1 := by
  have hg := lg_pos h
  have hl := lg_pos (low_n h).1
  have h1 : Dv (x.lg * x.low.lg) x := by
    have := dv_sc (c := x.lg) (lg_dv x.low)
    rwa [← low_eq h] at this
  have h2 := Int.le_of_dvd (by omega) (dv_lg h1)
  apply Int.le_antisymm _ hl.1
  apply Int.not_lt.1; intro hc
  have := Int.mul_le_mul_of_nonneg_left (show 2 ≤ x.low.lg by omega) (show 0 ≤ x.lg by omega)
  omega
/-- The same matrix, with other denominators. -/
structure Pr (x y : Rt) : Prop where
  a : x.a * y.n = y.a * x.n
  b : x.b * y.n = y.b * x.n
  c : x.c * y.n = y.c * x.n
  d : x.d * y.n = y.d * x.n
  e : x.e * y.n = y.e * x.n
  f : x.f * y.n = y.f * x.n
  g : x.g * y.n = y.g * x.n
  h : x.h * y.n = y.h * x.n
  i : x.i * y.n = y.i * x.n
theorem Pr.symm {x y : Rt} (h : Pr x y) : Pr y x := ⟨h.a.symm, h.b.symm, h.c.symm, h.d.symm, h.e.symm, h.f.symm, h.g.symm, h.h.symm, h.i.symm⟩
theorem Pr.dvd {x y : Rt} (h : Pr x y) (hl : x.lg = 1) (hy : 1 ≤ y.n) : x.n ∣ y.n := by
  have t : ∀ a b : Int, a * y.n = b * x.n → x.n ∣ y.n * a := fun a b e => ⟨b, by rw [Int.mul_comm, e, Int.mul_comm]⟩
  have k : Dv x.n (sc y.n x) := ⟨t _ _ h.a, t _ _ h.b, t _ _ h.c, t _ _ h.d, t _ _ h.e, t _ _ h.f, t _ _ h.g, t _ _ h.h, t _ _ h.i, ⟨y.n, Int.mul_comm ..⟩⟩
  have := Int.dvd_trans (dv_lg k) (lg_sc hy x)
  rwa [hl, Int.mul_one] at this
theorem eq_of_pr {x y : Rt} (hx : 1 ≤ x.n) (hy : 1 ≤ y.n) (lx : x.lg = 1) (ly : y.lg = 1) (h : Pr x y) : x = y := by
  have h1 := Int.le_of_dvd (by omega) (h.dvd lx hy)
  have h2 := Int.le_of_dvd (by omega) (h.symm.dvd ly hx)
  have hn : x.n = y.n := by omega
  have t : ∀ a b : Int, a * y.n = b * x.n → a = b := fun a b e => by
    rw [hn] at e
    exact Int.eq_of_mul_eq_mul_right (by omega) e
  exact ext' (t _ _ h.a) (t _ _ h.b) (t _ _ h.c) (t _ _ h.d) (t _ _ h.e) (t _ _ h.f) (t _ _ h.g) (t _ _ h.h) (t _ _ h.i) hn
theorem pr_of_sc {c k : Int} (hc : c ≠ 0) (hk : k ≠ 0) {x y : Rt} (h : sc c x = sc k y) : Pr x y := by
  have t : ∀ a b n m : Int, c * a = k * b → c * n = k * m → a * m = b * n := fun a b n m e1 e2 => by
    apply Int.eq_of_mul_eq_mul_left (Int.mul_ne_zero hc hk)
    have e3 : c * k * (a * m) = (c * a) * (k * m) := by rw [Int.mul_assoc, Int.mul_assoc]; congr 1; rw [Int.mul_left_comm]
    have e4 : c * k * (b * n) = (k * b) * (c * n) := by rw [Int.mul_comm c k, Int.mul_assoc, Int.mul_assoc]; congr 1; rw [Int.mul_left_comm]
    rw [e3, e4, e1, e2]
  have hn := congrArg Rt.n h
  exact ⟨t _ _ _ _ (congrArg Rt.a h) hn, t _ _ _ _ (congrArg Rt.b h) hn, t _ _ _ _ (congrArg Rt.c h) hn, t _ _ _ _ (congrArg Rt.d h) hn, t _ _ _ _ (congrArg Rt.e h) hn, t _ _ _ _ (congrArg Rt.f h) hn, t _ _ _ _ (congrArg Rt.g h) hn, t _ _ _ _ (congrArg Rt.h h) hn, t _ _ _ _ (congrArg Rt.i h) hn⟩
/-- Matrices of which multiples are equal are equal in lowest terms. -/
theorem low_of_sc {c k : Int} (hc : c ≠ 0) (hk : k ≠ 0) {x y : Rt} (hx : 1 ≤ x.n) (hy : 1 ≤ y.n) (h : sc c x = sc k y) : x.low = y.low := by
  refine eq_of_pr (low_n hx).1 (low_n hy).1 (lg_low hx) (lg_low hy) (pr_of_sc (c := c * x.lg) (k := k * y.lg) (Int.mul_ne_zero hc (by have := lg_pos hx; omega)) (Int.mul_ne_zero hk (by have := lg_pos hy; omega)) ?_)
  rw [← sc_sc, ← sc_sc, ← low_eq hx, ← low_eq hy, h]
/-- One rotation behind the other. -/
def comp (x y : Rt) : Rt := ⟨x.a * y.a + x.b * y.d + x.c * y.g, x.a * y.b + x.b * y.e + x.c * y.h, x.a * y.c + x.b * y.f + x.c * y.i, x.d * y.a + x.e * y.d + x.f * y.g, x.d * y.b + x.e * y.e + x.f * y.h, x.d * y.c + x.e * y.f + x.f * y.i, x.g * y.a + x.h * y.d + x.i * y.g, x.g * y.b + x.h * y.e + x.i * y.h, x.g * y.c + x.h * y.f + x.i * y.i, x.n * y.n⟩
theorem comp_sc (c k : Int) (x y : Rt) : comp (sc c x) (sc k y) = sc (c * k) (comp x y) := by
  apply ext' <;> (simp only [comp, sc]; grind)
theorem comp_low {x y : Rt} (hx : 1 ≤ x.n) (hy : 1 ≤ y.n) : (comp x.low y.low).low = (comp x y).low := by
  have gx := lg_pos hx; have gy := lg_pos hy
  have nx := low_n hx; have ny := low_n hy
  refine low_of_sc (c := x.lg * y.lg) (k := 1) (Int.mul_ne_zero (by omega) (by omega)) (by omega) ?_ ?_ ?_
  · have := Int.mul_pos (a := x.low.n) (b := y.low.n) (by omega) (by omega)
    show 1 ≤ x.low.n * y.low.n
    omega
  · have := Int.mul_pos (a := x.n) (b := y.n) (by omega) (by omega)
    show 1 ≤ x.n * y.n
    omega
  · rw [← comp_sc, ← low_eq hx, ← low_eq hy]
    apply ext' <;> simp only [sc, Int.one_mul]
/-- The rows of which the first one other than 0 gives the quaternion. -/
def l0 (x : Rt) : Qt := ⟨x.n + x.a + x.e + x.i, x.h - x.f, x.c - x.g, x.d - x.b⟩
def l1 (x : Rt) : Qt := ⟨x.h - x.f, x.n + x.a - x.e - x.i, x.b + x.d, x.c + x.g⟩
def l2 (x : Rt) : Qt := ⟨x.c - x.g, x.b + x.d, x.n - x.a + x.e - x.i, x.f + x.h⟩
def l3 (x : Rt) : Qt := ⟨x.d - x.b, x.c + x.g, x.f + x.h, x.n - x.a - x.e + x.i⟩
def z4 (q : Qt) : Bool := q.eqb ⟨0, 0, 0, 0⟩
def lq (x : Rt) : Qt := if z4 x.l0 then (if z4 x.l1 then (if z4 x.l2 then x.l3 else x.l2) else x.l1) else x.l0
theorem lq_ne {x : Rt} (h : 1 ≤ x.n) : z4 x.lq = false := by
  have e : ∀ q : Qt, z4 q = true → q.w = 0 ∧ q.x = 0 ∧ q.y = 0 ∧ q.z = 0 := fun q hq => by
    have := Qt.eqb_iff.1 hq; rw [this]; exact ⟨rfl, rfl, rfl, rfl⟩
  unfold lq
  split
  · split
    · split
      · rename_i h0 h1 h2
        cases h3 : z4 x.l3
        · rfl
        · have k0 := e _ h0; have k1 := e _ h1; have k2 := e _ h2; have k3 := e _ h3
          simp only [l0, l1, l2, l3] at k0 k1 k2 k3
          omega
      · simpa using ‹¬z4 x.l2 = true›
    · simpa using ‹¬z4 x.l1 = true›
  · simpa using ‹¬z4 x.l0 = true›
theorem lq_row (x : Rt) : x.lq = x.l0 ∨ x.lq = x.l1 ∨ x.lq = x.l2 ∨ x.lq = x.l3 := by
  unfold lq
  split
  · split
    · split
      · exact .inr (.inr (.inr rfl))
      · exact .inr (.inr (.inl rfl))
    · exact .inr (.inl rfl)
  · exact .inl rfl
/-- What the program asks of a rotation, beside the sizes. -/
structure Orth (x : Rt) : Prop where
  aa : x.a * x.a + x.b * x.b + x.c * x.c = x.n * x.n
  bb : x.d * x.d + x.e * x.e + x.f * x.f = x.n * x.n
  cc : x.g * x.g + x.h * x.h + x.i * x.i = x.n * x.n
  ab : x.a * x.d + x.b * x.e + x.c * x.f = 0
  ac : x.a * x.g + x.b * x.h + x.c * x.i = 0
  bc : x.d * x.g + x.e * x.h + x.f * x.i = 0
  c0 : x.b * x.f - x.c * x.e = x.g * x.n
  c1 : x.c * x.d - x.a * x.f = x.h * x.n
  c2 : x.a * x.e - x.b * x.d = x.i * x.n
theorem cross1 {a b c d e f h i n : Int} (bb : d * d + e * e + f * f = n * n) (ab : a * d + b * e + c * f = 0) (c1 : c * d - a * f = h * n) (c2 : a * e - b * d = i * n) (hn : 1 ≤ n) : e * i - f * h = n * a := by
  apply Int.eq_of_mul_eq_mul_left (show n ≠ 0 by omega)
  have s1 : n * (e * i - f * h) = e * (i * n) - f * (h * n) := by grind
  have s2 : e * (a * e - b * d) - f * (c * d - a * f) = a * (d * d + e * e + f * f) - d * (a * d + b * e + c * f) := by grind
  rw [s1, ← c2, ← c1, s2, bb, ab]
  grind
theorem cross2 {a b c d e f h i n : Int} (aa : a * a + b * b + c * c = n * n) (ab : a * d + b * e + c * f = 0) (c1 : c * d - a * f = h * n) (c2 : a * e - b * d = i * n) (hn : 1 ≤ n) : h * c - i * b = n * d := by
  apply Int.eq_of_mul_eq_mul_left (show n ≠ 0 by omega)
  have s1 : n * (h * c - i * b) = c * (h * n) - b * (i * n) := by grind
  have s2 : c * (c * d - a * f) - b * (a * e - b * d) = d * (a * a + b * b + c * c) - a * (a * d + b * e + c * f) := by grind
  rw [s1, ← c2, ← c1, s2, aa, ab]
  grind
theorem Orth.first {x : Rt} (h : Orth x) (hn : 1 ≤ x.n) : x.e * x.i - x.f * x.h = x.n * x.a ∧ x.f * x.g - x.d * x.i = x.n * x.b ∧ x.d * x.h - x.e * x.g = x.n * x.c :=
  ⟨cross1 h.bb h.ab h.c1 h.c2 hn, cross1 (d := x.e) (e := x.f) (f := x.d) (a := x.b) (b := x.c) (c := x.a) (by have := h.bb; omega) (by have := h.ab; omega) h.c2 h.c0 hn, cross1 (d := x.f) (e := x.d) (f := x.e) (a := x.c) (b := x.a) (c := x.b) (by have := h.bb; omega) (by have := h.ab; omega) h.c0 h.c1 hn⟩
theorem Orth.second {x : Rt} (h : Orth x) (hn : 1 ≤ x.n) : x.h * x.c - x.i * x.b = x.n * x.d ∧ x.i * x.a - x.g * x.c = x.n * x.e ∧ x.g * x.b - x.h * x.a = x.n * x.f :=
  ⟨cross2 h.aa h.ab h.c1 h.c2 hn, cross2 (d := x.e) (e := x.f) (f := x.d) (a := x.b) (b := x.c) (c := x.a) (by have := h.aa; omega) (by have := h.ab; omega) h.c2 h.c0 hn, cross2 (d := x.f) (e := x.d) (f := x.e) (a := x.c) (b := x.a) (c := x.b) (by have := h.aa; omega) (by have := h.ab; omega) h.c0 h.c1 hn⟩
theorem Orth.of_sc {c : Int} (hc : c ≠ 0) {x : Rt} (h : Orth (sc c x)) : Orth x := by
  have hcc : c * c ≠ 0 := Int.mul_ne_zero hc hc
  have t : ∀ p q u v r s m l : Int, c * p * (c * q) + c * u * (c * v) + c * r * (c * s) = c * m * (c * l) → p * q + u * v + r * s = m * l := fun p q u v r s m l e => by
    apply Int.eq_of_mul_eq_mul_left hcc
    have e1 : c * c * (p * q + u * v + r * s) = c * p * (c * q) + c * u * (c * v) + c * r * (c * s) := by grind
    have e2 : c * c * (m * l) = c * m * (c * l) := by grind
    rw [e1, e2, e]
  have t0 : ∀ p q u v r s : Int, c * p * (c * q) + c * u * (c * v) + c * r * (c * s) = 0 → p * q + u * v + r * s = 0 := fun p q u v r s e => by
    have := t p q u v r s 0 0 (by rw [e]; simp)
    simpa using this
  have t1 : ∀ p q u v m l : Int, c * p * (c * q) - c * u * (c * v) = c * m * (c * l) → p * q - u * v = m * l := fun p q u v m l e => by
    apply Int.eq_of_mul_eq_mul_left hcc
    have e1 : c * c * (p * q - u * v) = c * p * (c * q) - c * u * (c * v) := by grind
    have e2 : c * c * (m * l) = c * m * (c * l) := by grind
    rw [e1, e2, e]
  exact ⟨t _ _ _ _ _ _ _ _ h.aa, t _ _ _ _ _ _ _ _ h.bb, t _ _ _ _ _ _ _ _ h.cc, t0 _ _ _ _ _ _ h.ab, t0 _ _ _ _ _ _ h.ac, t0 _ _ _ _ _ _ h.bc, t1 _ _ _ _ _ _ h.c0, t1 _ _ _ _ _ _ h.c1, t1 _ _ _ _ _ _ h.c2⟩
theorem Orth.bd {x : Rt} (h : Orth x) (hn : 1 ≤ x.n) : (-x.n ≤ x.a ∧ x.a ≤ x.n) ∧ (-x.n ≤ x.b ∧ x.b ≤ x.n) ∧ (-x.n ≤ x.c ∧ x.c ≤ x.n) ∧ (-x.n ≤ x.d ∧ x.d ≤ x.n) ∧ (-x.n ≤ x.e ∧ x.e ≤ x.n) ∧ (-x.n ≤ x.f ∧ x.f ≤ x.n) ∧ (-x.n ≤ x.g ∧ x.g ≤ x.n) ∧ (-x.n ≤ x.h ∧ x.h ≤ x.n) ∧ (-x.n ≤ x.i ∧ x.i ≤ x.n) := by
  obtain ⟨aa, bb, cc, _, _, _, _, _, _⟩ := h
  have q := Qt.sq_nonneg
  have := q x.a; have := q x.b; have := q x.c; have := q x.d; have := q x.e; have := q x.f; have := q x.g; have := q x.h; have := q x.i
  have t : ∀ u : Int, u * u ≤ x.n * x.n → -x.n ≤ u ∧ u ≤ x.n := fun u hu => Qt.abs_of_sq u x.n (by omega) hu
  exact ⟨t _ (by omega), t _ (by omega), t _ (by omega), t _ (by omega), t _ (by omega), t _ (by omega), t _ (by omega), t _ (by omega), t _ (by omega)⟩
end Rt

namespace Qt
theorem rot_smul (c : Int) (a : Qt) : rot (smul c a) = Rt.sc (c * c) (rot a) := by
  apply Rt.ext' <;> (simp only [rot, im, mul, conj, smul, nrm, e1, e2, e3, Rt.sc]; grind)
theorem conj_mul (a b : Qt) : (a.mul b).conj = b.conj.mul a.conj := by
  apply ext' <;> (simp only [mul, conj]; grind)
theorem im_mul (a b v : Qt) : im (a.mul b) v = im a (im b v) := by
  unfold im
  rw [conj_mul, mul_assoc, mul_assoc, mul_assoc, mul_assoc, mul_assoc]
theorem im_pure (a : Qt) (x y z : Int) : im a ⟨0, x, y, z⟩ = ⟨0, x * (im a e1).x + y * (im a e2).x + z * (im a e3).x, x * (im a e1).y + y * (im a e2).y + z * (im a e3).y, x * (im a e1).z + y * (im a e2).z + z * (im a e3).z⟩ := by
  apply ext' <;> (simp only [im, mul, conj, e1, e2, e3]; grind)
theorem im_w (a : Qt) (x y z : Int) : (im a ⟨0, x, y, z⟩).w = 0 := by rw [im_pure]
theorem rot_mul (a b : Qt) : rot (a.mul b) = Rt.comp (rot a) (rot b) := by
  have t : ∀ v : Qt, v.w = 0 → im (a.mul b) v = im a ⟨0, (im b v).x, (im b v).y, (im b v).z⟩ := fun v hv => by
    rw [im_mul]
    congr 1
    refine ext' ?_ rfl rfl rfl
    obtain ⟨w, x, y, z⟩ := v
    subst hv
    exact im_w ..
  have t1 := t e1 rfl; have t2 := t e2 rfl; have t3 := t e3 rfl
  rw [im_pure] at t1 t2 t3
  apply Rt.ext' <;> simp only [rot, Rt.comp, t1, t2, t3, nrm_mul] <;> grind
theorem nrm_smul' (n : Int) (q : Qt) : (smul n q).nrm = n * n * q.nrm := by simp only [nrm, smul]; grind
theorem rot_low {a : Qt} {c : Int} (hc : c ≠ 0) (ha : 1 ≤ a.nrm) : (smul c a).rot.low = a.rot.low := by
  have h2 : 1 ≤ (smul c a).nrm := by
    rw [nrm_smul']
    have h0 : 0 < c * c := by
      rcases Int.lt_or_gt_of_ne hc with h | h
      · exact Int.mul_pos_of_neg_of_neg h h
      · exact Int.mul_pos h h
    have := Int.mul_pos h0 (show 0 < a.nrm by omega)
    omega
  refine Rt.low_of_sc (c := 1) (k := c * c) (by omega) (Int.mul_ne_zero hc hc) h2 ha ?_
  rw [← rot_smul]
  apply Rt.ext' <;> simp only [Rt.sc, Int.one_mul]
theorem red_spec {a : Qt} (h : a.eqb ⟨0, 0, 0, 0⟩ = false) : ∃ c, c ≠ 0 ∧ a = smul c a.red := by
  have hg := g4_pos h
  obtain ⟨e0, e1, e2, e3⟩ := over_g4 a
  unfold red
  split
  · refine ⟨-g4 a.w a.x a.y a.z, by omega, ?_⟩
    apply ext' <;> simp only [smul, Qt.neg, Int.neg_mul_neg] <;> assumption
  · exact ⟨g4 a.w a.x a.y a.z, by omega, ext' e0 e1 e2 e3⟩
theorem red_rot {a : Qt} (h : a.eqb ⟨0, 0, 0, 0⟩ = false) : a.red.rot.low = a.rot.low := by
  obtain ⟨c, hc, he⟩ := red_spec h
  have := rot_low hc (red_nrm h).1
  rw [← he] at this
  exact this.symm
theorem rot_l0 (a : Qt) : (rot a).l0 = smul (4 * a.w) a := by
  apply ext' <;> (simp only [Rt.l0, rot, im, mul, conj, smul, nrm, e1, e2, e3]; grind)
theorem rot_l1 (a : Qt) : (rot a).l1 = smul (4 * a.x) a := by
  apply ext' <;> (simp only [Rt.l1, rot, im, mul, conj, smul, nrm, e1, e2, e3]; grind)
theorem rot_l2 (a : Qt) : (rot a).l2 = smul (4 * a.y) a := by
  apply ext' <;> (simp only [Rt.l2, rot, im, mul, conj, smul, nrm, e1, e2, e3]; grind)
theorem rot_l3 (a : Qt) : (rot a).l3 = smul (4 * a.z) a := by
  apply ext' <;> (simp only [Rt.l3, rot, im, mul, conj, smul, nrm, e1, e2, e3]; grind)
theorem sc_l0 (c : Int) (x : Rt) : (Rt.sc c x).l0 = smul c x.l0 := by apply ext' <;> (simp only [Rt.l0, Rt.sc, smul]; grind)
theorem sc_l1 (c : Int) (x : Rt) : (Rt.sc c x).l1 = smul c x.l1 := by apply ext' <;> (simp only [Rt.l1, Rt.sc, smul]; grind)
theorem sc_l2 (c : Int) (x : Rt) : (Rt.sc c x).l2 = smul c x.l2 := by apply ext' <;> (simp only [Rt.l2, Rt.sc, smul]; grind)
theorem sc_l3 (c : Int) (x : Rt) : (Rt.sc c x).l3 = smul c x.l3 := by apply ext' <;> (simp only [Rt.l3, Rt.sc, smul]; grind)
theorem nrm_ne {a : Qt} (h : 1 ≤ a.nrm) : a.eqb ⟨0, 0, 0, 0⟩ = false := by
  cases k : a.eqb ⟨0, 0, 0, 0⟩
  · rfl
  · have := eqb_iff.1 k
    subst this
    simp [nrm] at h
/-- The quaternion that is read off the matrix of a has the same rotation. -/
theorem lq_rot {a : Qt} (ha : 1 ≤ a.nrm) : a.rot.low.lq.rot.low = a.rot.low := by
  have hn : 1 ≤ a.rot.n := ha
  have hg := Rt.lg_pos hn
  have hz := Rt.lq_ne (Rt.low_n hn).1
  have hq := nrm_pos (a := a.rot.low.lq) hz
  have key : ∃ c, smul a.rot.lg a.rot.low.lq = smul c a := by
    have e := Rt.low_eq hn
    rcases Rt.lq_row a.rot.low with h | h | h | h <;> rw [h]
    · exact ⟨_, by rw [← sc_l0, ← e, rot_l0]⟩
    · exact ⟨_, by rw [← sc_l1, ← e, rot_l1]⟩
    · exact ⟨_, by rw [← sc_l2, ← e, rot_l2]⟩
    · exact ⟨_, by rw [← sc_l3, ← e, rot_l3]⟩
  obtain ⟨c, hc⟩ := key
  have h1 := rot_low (c := a.rot.lg) (by omega) hq
  have c0 : c ≠ 0 := fun h => by
    subst h
    have k := congrArg nrm hc
    rw [nrm_smul', nrm_smul'] at k
    have := Int.mul_pos (Int.mul_pos (show 0 < a.rot.lg by omega) (show 0 < a.rot.lg by omega)) (show 0 < a.rot.low.lq.nrm by omega)
    omega
  rw [← h1, hc, rot_low c0 ha]
theorem rot_orth (a : Qt) : Rt.Orth (rot a) := by
  constructor <;> (simp only [rot, im, mul, conj, nrm, e1, e2, e3]; grind)
theorem low_orth {a : Qt} (h : 1 ≤ a.nrm) : Rt.Orth a.rot.low := by
  have hn : 1 ≤ a.rot.n := h
  refine Rt.Orth.of_sc (c := a.rot.lg) (by have := Rt.lg_pos hn; omega) ?_
  rw [← Rt.low_eq hn]
  exact rot_orth a
/-- The matrix of a Hurwitz quaternion (twice the coordinates are given) has a denominator of at most its norm. -/
theorem rot_hz {a : Qt} (ha : Hz a) (h : 1 ≤ a.nrm) : a.rot.low.n ≤ a.nrm / 4 := by
  have hn : 1 ≤ a.rot.n := h
  have t : ∀ x y z : Int, ∃ u v w : Int, im a ⟨0, x, y, z⟩ = ⟨0, 4 * u, 4 * v, 4 * w⟩ := fun x y z => by
    have hE : Hz (dbl ⟨0, x, y, z⟩) := ⟨0, x, y, z, 0, by simp [dbl]⟩
    have k1 := hm_spec ha hE
    have k2 := hm_spec k1.1 (hz_conj ha)
    have e1 : dbl (im a ⟨0, x, y, z⟩) = dbl (dbl (hm (hm a (dbl ⟨0, x, y, z⟩)) a.conj)) := by
      rw [← k2.2, ← dbl_mul, ← k1.2, mul_dbl, dbl_mul]; rfl
    have e2 := dbl_inj e1
    have e3 := congrArg Qt.w e2
    rw [im_w] at e3
    generalize hm (hm a (dbl ⟨0, x, y, z⟩)) a.conj = q at *
    obtain ⟨p1, p2, p3⟩ := (hz_iff q).1 k2.1
    simp only [dbl] at e3
    refine ⟨q.x / 2, q.y / 2, q.z / 2, ?_⟩
    rw [e2]
    apply ext' <;> simp only [dbl] <;> omega
  obtain ⟨u1, v1, w1, h1⟩ := t 1 0 0
  obtain ⟨u2, v2, w2, h2⟩ := t 0 1 0
  obtain ⟨u3, v3, w3, h3⟩ := t 0 0 1
  change im a e1 = _ at h1
  change im a e2 = _ at h2
  change im a e3 = _ at h3
  have h4 := hz_nrm ha
  have d : Rt.Dv 4 a.rot := by
    constructor <;> simp only [rot, h1, h2, h3] <;> first | exact Int.dvd_mul_right .. | exact Int.dvd_of_emod_eq_zero h4
  have hl := Rt.dv_lg d
  have hle := Int.le_of_dvd (by have := Rt.lg_pos hn; omega) hl
  have e : a.nrm = a.rot.lg * a.rot.low.n := congrArg Rt.n (Rt.low_eq hn)
  have := Int.mul_le_mul_of_nonneg_right hle (show 0 ≤ a.rot.low.n by have := Rt.low_n hn; omega)
  omega
end Qt
theorem Qd.rot_eq {q : Qd} (h : q.serr = 0) : q.rot = q.num.rot.low := by
  rcases q.serr_cases with ⟨_, h'⟩ | ⟨_, _, h'⟩ | ⟨_, hz, _⟩
  · rw [h'] at h; exact absurd h (by decide)
  · rw [h'] at h; exact absurd h (by decide)
  · exact Qt.red_rot hz
end Go.Proofs.YthajaabgcbjfkaaDoor
