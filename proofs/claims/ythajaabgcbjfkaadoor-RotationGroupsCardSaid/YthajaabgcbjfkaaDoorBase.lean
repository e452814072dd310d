/- Plain lemmas on wrapped integers and quaternions; no program in sight. A world that has grown by blocks of a callee's own, written out: 'W.more g'. Over any program. A region that draws its order: all operations but a forced tail are quiet in a class of worlds; the tail is walked in its order. Over any program. A region that draws its order, whose head calls, reads and makes blocks of its own (an 'alloc' for each new variable), and whose tail is forced: one walk of the text's order serves. Over any program. A region that draws its order, whose head calls, reads and makes blocks of its own, and whose tail is forced: one walk of the text's order serves. What an operation yields may lean on the blocks that the operations it waits for have made. Over any program. -/
import Derived.WalkKit
import Derived.Below
import Derived.Deep.Quiet
import Derived.StillTail
namespace Go.Proofs.YthajaabgcbjfkaaDoor
open Go.RowKit

theorem wr_wr (x : Int) : wrap64 (wrap64 x) = wrap64 x := by unfold wrap64; omega
theorem wr_add_l (x y : Int) : wrap64 (wrap64 x + y) = wrap64 (x + y) := by unfold wrap64; omega
theorem wr_add_r (x y : Int) : wrap64 (x + wrap64 y) = wrap64 (x + y) := by unfold wrap64; omega
theorem wr_sub_l (x y : Int) : wrap64 (wrap64 x - y) = wrap64 (x - y) := by unfold wrap64; omega
theorem wr_sub_r (x y : Int) : wrap64 (x - wrap64 y) = wrap64 (x - y) := by unfold wrap64; omega
theorem wr_neg (x : Int) : wrap64 (-wrap64 x) = wrap64 (-x) := by unfold wrap64; omega
theorem wr_eq (x : Int) : ∃ k, wrap64 x = x + 18446744073709551616 * k := ⟨-((x + 9223372036854775808) / 18446744073709551616), by unfold wrap64; omega⟩
theorem wr_shift (x k : Int) : wrap64 (x + 18446744073709551616 * k) = wrap64 x := by unfold wrap64; omega
theorem wr_mul_l (x y : Int) : wrap64 (wrap64 x * y) = wrap64 (x * y) := by
  obtain ⟨k, hk⟩ := wr_eq x
  rw [hk, Int.add_mul, Int.mul_assoc, wr_shift]
theorem wr_mul_r (x y : Int) : wrap64 (x * wrap64 y) = wrap64 (x * y) := by
  rw [Int.mul_comm, wr_mul_l, Int.mul_comm]
theorem wr_in (n : Int) (h : -9223372036854775808 ≤ n ∧ n ≤ 9223372036854775807) : wrap64 n = n := IntWalk.wrap64_in n h

/-- Four integers. -/
structure Qt where
  w : Int
  x : Int
  y : Int
  z : Int

namespace Qt
def mul (a b : Qt) : Qt := ⟨a.w * b.w - a.x * b.x - a.y * b.y - a.z * b.z, a.w * b.x + a.x * b.w + a.y * b.z - a.z * b.y, a.w * b.y + a.y * b.w + a.z * b.x - a.x * b.z, a.w * b.z + a.z * b.w + a.x * b.y - a.y * b.x⟩
def conj (a : Qt) : Qt := ⟨a.w, -a.x, -a.y, -a.z⟩
def nrm (a : Qt) : Int := a.w * a.w + a.x * a.x + a.y * a.y + a.z * a.z
def sub (a b : Qt) : Qt := ⟨a.w - b.w, a.x - b.x, a.y - b.y, a.z - b.z⟩
def over (a : Qt) (n : Int) : Qt := ⟨a.w.tdiv n, a.x.tdiv n, a.y.tdiv n, a.z.tdiv n⟩
def wr (a : Qt) : Qt := ⟨wrap64 a.w, wrap64 a.x, wrap64 a.y, wrap64 a.z⟩
def eqb (a b : Qt) : Bool := decide (a.w = b.w ∧ a.x = b.x ∧ a.y = b.y ∧ a.z = b.z)
theorem ext' {a b : Qt} (h1 : a.w = b.w) (h2 : a.x = b.x) (h3 : a.y = b.y) (h4 : a.z = b.z) : a = b := by
  cases a; cases b; simp_all
def InR (q : Qt) : Prop := (-4000000000000000000 ≤ q.w ∧ q.w ≤ 4000000000000000000) ∧ (-4000000000000000000 ≤ q.x ∧ q.x ≤ 4000000000000000000) ∧ (-4000000000000000000 ≤ q.y ∧ q.y ≤ 4000000000000000000) ∧ (-4000000000000000000 ≤ q.z ∧ q.z ≤ 4000000000000000000)
theorem wr_InR {q : Qt} (h : q.InR) : q.wr = q := by
  obtain ⟨h0, h1, h2, h3⟩ := h
  exact ext' (wr_in _ (by omega)) (wr_in _ (by omega)) (wr_in _ (by omega)) (wr_in _ (by omega))
theorem tdiv_bd (x n B : Int) (hB : 0 ≤ B) (hn : 1 ≤ n) (h : -B ≤ x ∧ x ≤ B) : -B ≤ x.tdiv n ∧ x.tdiv n ≤ B := by
  rcases Int.le_total 0 x with h0 | h0
  · rw [Int.tdiv_eq_ediv_of_nonneg h0]
    have := IntWalk.tdiv_le x n h0 hn
    omega
  · have e : x.tdiv n = -((-x).tdiv n) := by rw [Int.neg_tdiv, Int.neg_neg]
    rw [e, Int.tdiv_eq_ediv_of_nonneg (by omega)]
    have := IntWalk.tdiv_le (-x) n (by omega) hn
    omega
theorem over_InR {q : Qt} (h : q.InR) {n : Int} (hn : 1 ≤ n) : (q.over n).InR := by
  obtain ⟨h0, h1, h2, h3⟩ := h
  exact ⟨tdiv_bd _ _ _ (by omega) hn h0, tdiv_bd _ _ _ (by omega) hn h1, tdiv_bd _ _ _ (by omega) hn h2, tdiv_bd _ _ _ (by omega) hn h3⟩
theorem sq_nonneg (x : Int) : 0 ≤ x * x := by
  rcases Int.le_total 0 x with h | h
  · exact Int.mul_nonneg h h
  · have := Int.mul_nonneg (Int.neg_nonneg_of_nonpos h) (Int.neg_nonneg_of_nonpos h)
    rwa [Int.neg_mul_neg] at this
theorem nrm_nonneg (a : Qt) : 0 ≤ a.nrm := by
  unfold nrm
  have := sq_nonneg a.w; have := sq_nonneg a.x; have := sq_nonneg a.y; have := sq_nonneg a.z
  omega
theorem eqb_iff {a b : Qt} : a.eqb b = true ↔ a = b := by
  cases a; cases b; simp [eqb]
end Qt

theorem floor_key (a b : Int) (hb : 1 ≤ b) : (0 ≤ a.tmod b → a.tdiv b = a / b) ∧ (a.tmod b < 0 → a.tdiv b - 1 = a / b) := by
  rcases Int.le_total 0 a with h | h
  · rw [Int.tdiv_eq_ediv_of_nonneg h, Int.tmod_eq_emod_of_nonneg h]
    have := Int.emod_nonneg a (show b ≠ 0 by omega)
    exact ⟨fun _ => rfl, fun hh => by omega⟩
  · have e1 : a.tdiv b = -((-a) / b) := by
      have : a.tdiv b = -((-a).tdiv b) := by rw [Int.neg_tdiv, Int.neg_neg]
      rw [this, Int.tdiv_eq_ediv_of_nonneg (by omega)]
    have e2 : a.tmod b = -((-a) % b) := by
      have : a.tmod b = -((-a).tmod b) := by rw [Int.neg_tmod, Int.neg_neg]
      rw [this, Int.tmod_eq_emod_of_nonneg (by omega)]
    have hm := Int.emod_nonneg (-a) (show b ≠ 0 by omega)
    have hm2 := Int.emod_lt_of_pos (-a) (show 0 < b by omega)
    have hd := Int.mul_ediv_add_emod (-a) b
    rw [e1, e2]
    generalize hq : (-a) / b = q at *
    generalize hr : (-a) % b = r at *
    constructor
    · intro hh
      have hr0 : r = 0 := by omega
      have : a = b * (-q) := by rw [Int.mul_neg]; omega
      rw [this, Int.mul_ediv_cancel_left _ (by omega)]
    · intro hh
      have : a = (b - r) + b * (-q - 1) := by rw [Int.mul_sub, Int.mul_neg]; omega
      rw [this, Int.add_mul_ediv_left _ _ (by omega), Int.ediv_eq_zero_of_lt (by omega) (by omega)]
      omega

/-- Five integers: an element. -/
structure Qd where
  w : Int
  x : Int
  y : Int
  z : Int
  d : Int
def Qd.num (q : Qd) : Qt := ⟨q.w, q.x, q.y, q.z⟩
def Qt.toQ (h : Qt) : Qd := if h.w % 2 = 0 then ⟨h.w.tdiv 2, h.x.tdiv 2, h.y.tdiv 2, h.z.tdiv 2, 1⟩ else ⟨h.w, h.x, h.y, h.z, 2⟩
/-- algebra.CheckQuat: 0, or ErrForm (3). -/
def Qd.okb (q : Qd) : Bool := decide ((-1000000 ≤ q.w ∧ q.w ≤ 1000000) ∧ (-1000000 ≤ q.x ∧ q.x ≤ 1000000) ∧ (-1000000 ≤ q.y ∧ q.y ≤ 1000000) ∧ (-1000000 ≤ q.z ∧ q.z ≤ 1000000) ∧ 1 ≤ q.d ∧ q.d ≤ 1000000)
def Qd.rdv (q : Qd) : Qt := ⟨(2 * q.w).tdiv q.d, (2 * q.x).tdiv q.d, (2 * q.y).tdiv q.d, (2 * q.z).tdiv q.d⟩
def Qd.rdok (q : Qd) : Bool := (!((2 * q.w).tmod q.d != 0)) && ((!((2 * q.x).tmod q.d != 0)) && ((!((2 * q.y).tmod q.d != 0)) && ((!((2 * q.z).tmod q.d != 0)) &&
  ((!(((2 * q.x).tdiv q.d - (2 * q.w).tdiv q.d).tmod 2 != 0)) && ((!(((2 * q.y).tdiv q.d - (2 * q.w).tdiv q.d).tmod 2 != 0)) && (!(((2 * q.z).tdiv q.d - (2 * q.w).tdiv q.d).tmod 2 != 0)))))))
def Qd.err (q : Qd) : Int := if q.okb then 0 else 3
theorem tmod2 (x : Int) : x.tmod 2 = 0 ↔ x % 2 = 0 := by
  rw [← Int.dvd_iff_tmod_eq_zero, Int.dvd_iff_emod_eq_zero]
def Qd.eqb (a b : Qd) : Bool := decide (a.w = b.w ∧ a.x = b.x ∧ a.y = b.y ∧ a.z = b.z ∧ a.d = b.d)
theorem Qd.eqb_iff {a b : Qd} : a.eqb b = true ↔ a = b := by
  cases a; cases b; simp [Qd.eqb]

theorem bcell {W w1 : World} {B : Nat} (hb : Below B W w1) : (∀ b o, b < B → w1.cell? ⟨b, o, none⟩ = W.cell? ⟨b, o, none⟩) ∧ (∀ b o, b < B → w1.frozen? ⟨b, o, none⟩ = W.frozen? ⟨b, o, none⟩) :=
  ⟨fun b o h => hb.cell (p := ⟨b, o, none⟩) h, fun b o h => hb.frozen (p := ⟨b, o, none⟩) h⟩

end Go.Proofs.YthajaabgcbjfkaaDoor

namespace Go.Proofs.YthajaabgcbjfkaaDoor
open Go.RowKit

def more (W : World) (g : Nat × Array Obj) : World := { W with heap := W.heap ++ g.2, drawn := g.1 }

theorem more_of_below {W w : World} (h : Below W.heap.size W w) : ∃ g, w = more W g := by
  refine ⟨(w.drawn, w.heap.extract W.heap.size w.heap.size), ?_⟩
  have hh : w.heap = W.heap ++ w.heap.extract W.heap.size w.heap.size := by
    apply Array.ext_getElem?
    intro i
    by_cases hi : i < W.heap.size
    · rw [h.block i hi, Array.getElem?_append_left hi]
    · rw [Array.getElem?_append_right (by omega), Array.getElem?_extract]
      have : W.heap.size + (i - W.heap.size) = i := by omega
      rw [this]
      by_cases hj : i < w.heap.size
      · rw [if_pos (by omega)]
      · rw [if_neg (by omega)]; exact Array.getElem?_eq_none (by omega)
  cases w with
  | mk heap tape drawn os output =>
    have h1 := h.os; have h2 := h.tape; have h3 := h.output
    simp only at h1 h2 h3 hh
    subst h1; subst h2; subst h3
    simp only [more]
    rw [← hh]

section
variable (W : World) (g : Nat × Array Obj)
theorem size_more : W.heap.size ≤ (more W g).heap.size := by simp [more]
theorem heap_more {b : Nat} (h : b < W.heap.size) : (more W g).heap[b]? = W.heap[b]? := by
  simp only [more]; rw [Array.getElem?_append_left h]
theorem below_more {B : Nat} {a : World} (h : Below B a W) (hB : B ≤ W.heap.size) : Below B a (more W g) :=
  Below.trans h ⟨rfl, rfl, rfl, size_more W g, fun k hk => heap_more W g (by omega)⟩
@[go_sem] theorem cell?_more {b : Nat} (o : Nat) (h : b < W.heap.size) : (more W g).cell? ⟨b, o, none⟩ = W.cell? ⟨b, o, none⟩ :=
  World.cell?_of_block (w := W) (heap_more W g h)
@[go_sem] theorem frozen?_more {b : Nat} (o : Nat) (h : b < W.heap.size) : (more W g).frozen? ⟨b, o, none⟩ = W.frozen? ⟨b, o, none⟩ :=
  World.frozen?_of_block (w := W) (heap_more W g h)
@[go_sem] theorem setCell_more {b : Nat} (o : Nat) (v : Value) (h : b < W.heap.size) : (more W g).setCell ⟨b, o, none⟩ v = more (W.setCell ⟨b, o, none⟩ v) g := by
  simp only [more, World.setCell]
  congr 1
  apply Array.ext_getElem?
  intro i
  by_cases hi : i < W.heap.size
  · rw [Array.getElem?_append_left (by simpa using hi)]
    simp only [Array.getElem?_modify]
    rw [Array.getElem?_append_left hi]
  · rw [Array.getElem?_append_right (by simpa using hi)]
    simp only [Array.getElem?_modify, Array.size_modify]
    rw [if_neg (by omega), Array.getElem?_append_right (by omega)]
@[go_sem] theorem more_drew : (more W g).drew = more W (g.1 + 1, g.2) := rfl
@[go_sem] theorem more_of_drew : more W.drew g = more W g := rfl
@[simp, go_sem] theorem size_more_eq : (more W g).heap.size = W.heap.size + g.2.size := by simp [more]
end
@[go_sem] theorem lt_grown1 {b c k0 : Nat} (h : b < c) : b < c + k0 := by omega
@[go_sem] theorem lt_grown2 {b c k0 k1 : Nat} (h : b < c) : b < c + k0 + k1 := by omega
@[go_sem] theorem lt_grown3 {b c k0 k1 k2 : Nat} (h : b < c) : b < c + k0 + k1 + k2 := by omega
@[go_sem] theorem lt_grown4 {b c k0 k1 k2 k3 : Nat} (h : b < c) : b < c + k0 + k1 + k2 + k3 := by omega
@[go_sem] theorem lt_grown5 {b c k0 k1 k2 k3 k4 : Nat} (h : b < c) : b < c + k0 + k1 + k2 + k3 + k4 := by omega
@[go_sem] theorem lt_grown6 {b c k0 k1 k2 k3 k4 k5 : Nat} (h : b < c) : b < c + k0 + k1 + k2 + k3 + k4 + k5 := by omega
@[go_sem] theorem lt_grown7 {b c k0 k1 k2 k3 k4 k5 k6 : Nat} (h : b < c) : b < c + k0 + k1 + k2 + k3 + k4 + k5 + k6 := by omega
@[go_sem] theorem lt_grown8 {b c k0 k1 k2 k3 k4 k5 k6 k7 : Nat} (h : b < c) : b < c + k0 + k1 + k2 + k3 + k4 + k5 + k6 + k7 := by omega
@[go_sem] theorem lt_grown9 {b c k0 k1 k2 k3 k4 k5 k6 k7 k8 : Nat} (h : b < c) : b < c + k0 + k1 + k2 + k3 + k4 + k5 + k6 + k7 + k8 := by omega
@[go_sem] theorem lt_grown10 {b c k0 k1 k2 k3 k4 k5 k6 k7 k8 k9 : Nat} (h : b < c) : b < c + k0 + k1 + k2 + k3 + k4 + k5 + k6 + k7 + k8 + k9 := by omega
@[go_sem] theorem lt_grown11 {b c k0 k1 k2 k3 k4 k5 k6 k7 k8 k9 k10 : Nat} (h : b < c) : b < c + k0 + k1 + k2 + k3 + k4 + k5 + k6 + k7 + k8 + k9 + k10 := by omega
@[go_sem] theorem lt_grown12 {b c k0 k1 k2 k3 k4 k5 k6 k7 k8 k9 k10 k11 : Nat} (h : b < c) : b < c + k0 + k1 + k2 + k3 + k4 + k5 + k6 + k7 + k8 + k9 + k10 + k11 := by omega
@[go_sem] theorem lt_grown13 {b c k0 k1 k2 k3 k4 k5 k6 k7 k8 k9 k10 k11 k12 : Nat} (h : b < c) : b < c + k0 + k1 + k2 + k3 + k4 + k5 + k6 + k7 + k8 + k9 + k10 + k11 + k12 := by omega
@[go_sem] theorem lt_grown14 {b c k0 k1 k2 k3 k4 k5 k6 k7 k8 k9 k10 k11 k12 k13 : Nat} (h : b < c) : b < c + k0 + k1 + k2 + k3 + k4 + k5 + k6 + k7 + k8 + k9 + k10 + k11 + k12 + k13 := by omega
@[go_sem] theorem lt_grown15 {b c k0 k1 k2 k3 k4 k5 k6 k7 k8 k9 k10 k11 k12 k13 k14 : Nat} (h : b < c) : b < c + k0 + k1 + k2 + k3 + k4 + k5 + k6 + k7 + k8 + k9 + k10 + k11 + k12 + k13 + k14 := by omega
@[go_sem] theorem lt_grown16 {b c k0 k1 k2 k3 k4 k5 k6 k7 k8 k9 k10 k11 k12 k13 k14 k15 : Nat} (h : b < c) : b < c + k0 + k1 + k2 + k3 + k4 + k5 + k6 + k7 + k8 + k9 + k10 + k11 + k12 + k13 + k14 + k15 := by omega
@[go_sem] theorem lt_grown17 {b c k0 k1 k2 k3 k4 k5 k6 k7 k8 k9 k10 k11 k12 k13 k14 k15 k16 : Nat} (h : b < c) : b < c + k0 + k1 + k2 + k3 + k4 + k5 + k6 + k7 + k8 + k9 + k10 + k11 + k12 + k13 + k14 + k15 + k16 := by omega
@[go_sem] theorem lt_grown18 {b c k0 k1 k2 k3 k4 k5 k6 k7 k8 k9 k10 k11 k12 k13 k14 k15 k16 k17 : Nat} (h : b < c) : b < c + k0 + k1 + k2 + k3 + k4 + k5 + k6 + k7 + k8 + k9 + k10 + k11 + k12 + k13 + k14 + k15 + k16 + k17 := by omega

/-- A block of the callee's part brought to light. -/
theorem split_block {W w : World} (h : Below W.heap.size W w) {b : Nat} {ob : Obj} (hb : W.heap.size ≤ b) (hob : w.heap[b]? = some ob) :
    ∃ g g', b = W.heap.size + g.2.size ∧ w = more ((more W g).alloc ob) g' := by
  have hbl : b < w.heap.size := (Array.getElem?_eq_some_iff.1 hob).1
  have hsz : (w.heap.extract W.heap.size b).size = b - W.heap.size := by simp; omega
  have hsb : b = W.heap.size + (w.heap.extract W.heap.size b).size := by rw [hsz]; omega
  refine ⟨(0, w.heap.extract W.heap.size b), (w.drawn, w.heap.extract (b + 1) w.heap.size), hsb, ?_⟩
  have hh : w.heap = ((W.heap ++ w.heap.extract W.heap.size b).push ob) ++ w.heap.extract (b + 1) w.heap.size := by
    apply Array.ext_getElem?
    intro i
    have h1 : (W.heap ++ w.heap.extract W.heap.size b).size = b := by simp; omega
    have h2 : ((W.heap ++ w.heap.extract W.heap.size b).push ob).size = b + 1 := by rw [Array.size_push, h1]
    by_cases hi : i < b + 1
    · rw [Array.getElem?_append_left (by omega), Array.getElem?_push, h1]
      by_cases hib : i = b
      · rw [if_pos hib, hib, hob]
      · rw [if_neg hib]
        by_cases hw : i < W.heap.size
        · rw [Array.getElem?_append_left hw, h.block i hw]
        · rw [Array.getElem?_append_right (by omega), Array.getElem?_extract, if_pos (by omega)]
          congr 1; omega
    · rw [Array.getElem?_append_right (by omega), Array.getElem?_extract]
      by_cases hj : i < w.heap.size
      · rw [if_pos (by omega)]; congr 1; omega
      · rw [if_neg (by omega)]; exact Array.getElem?_eq_none (by omega)
  cases w with
  | mk heap tape drawn os output =>
    have h1 := h.os; have h2 := h.tape; have h3 := h.output
    simp only at h1 h2 h3 hh
    subst h1; subst h2; subst h3
    simp only [more, World.alloc]
    rw [← hh]
theorem split_two {W w : World} (h : Below W.heap.size W w) {b c : Nat} {ob oc : Obj} (hb : W.heap.size ≤ b) (hob : w.heap[b]? = some ob) (hoc : w.heap[c]? = some oc) (hlt : b < c) :
    ∃ g g' g'', b = W.heap.size + g.2.size ∧ c = W.heap.size + g.2.size + 1 + g'.2.size ∧ w = more ((more ((more W g).alloc ob) g').alloc oc) g'' := by
  obtain ⟨g, g', hE, hw⟩ := split_block h hb hob
  have hB : Below ((more W g).alloc ob).heap.size ((more W g).alloc ob) w := by rw [hw]; exact below_more _ _ (Below.refl _ _) (Nat.le_refl _)
  have hs : ((more W g).alloc ob).heap.size = W.heap.size + g.2.size + 1 := by simp
  obtain ⟨g2, g3, hE2, hw2⟩ := split_block hB (b := c) (by omega) hoc
  exact ⟨g, g2, g3, hE, by omega, hw2⟩
theorem below_more_alloc (W : World) (g g' : Nat × Array Obj) (ob : Obj) : Below ((more W g).alloc ob).heap.size ((more W g).alloc ob) (more ((more W g).alloc ob) g') := below_more _ _ (Below.refl _ _) (Nat.le_refl _)
end Go.Proofs.YthajaabgcbjfkaaDoor

namespace Go.Proofs.YthajaabgcbjfkaaDoor
open Go.RowKit
section
variable {P : Program} {ops : Array Oper} {md : Region.Mode} {C : World → Prop}

/-- Whatever order is picked from here on, for so many operations, all of them of the head. -/
def headQ (P : Program) (md : Region.Mode) (ops : Array Oper) (C : World → Prop) (n : Nat) (L : Array Bool → Act → Prop) : Nat → Array Bool → Act → Prop
  | 0, listed, a => L listed a
  | f + 1, listed, a =>
    Region.ready md ops listed ≠ [] ∧ ∀ i ∈ Region.ready md ops listed, i < n ∧ qOp P ops C i (headQ P md ops C n L f (listed.setIfInBounds i true)) a

theorem wpAny_of_headQ {n g : Nat} {L : Array Bool → Act → Prop} {Q' : Exit → Act → World → Prop} (hL : ∀ listed a w, C w → L listed a → wpAny P md ops Q' g listed a w) :
    ∀ (f : Nat) (listed : Array Bool) (a : Act) (w : World), C w → headQ P md ops C n L f listed a → wpAny P md ops Q' (f + g) listed a w
  | 0, _, _, _, hw, h => by rw [Nat.zero_add]; exact hL _ _ _ hw h
  | f + 1, listed, a, w, hw, h => by
    rw [show f + 1 + g = (f + g) + 1 by omega]
    exact ⟨fun h0 => absurd h0 h.1, fun i hi => wpOp_of_qOp hw (fun a' w' hw' h' => wpAny_of_headQ hL f _ a' w' hw' h') (h.2 i hi).2⟩

theorem headQ_first {n i : Nat} {oi : Oper} {v : Value} {L : Array Bool → Act → Prop} (hi : ops[i]? = some oi) (hsel : ∀ (j : Nat) (o : Oper) cs b, ops[j]? = some o → o.op ≠ .select cs b)
    (hs : Region.sinkB md ops n = true) (hc : Region.chainB md ops n = true) (hn : n < ops.size) (hin : i < n)
    (hdone : ∀ listed a, L listed a → ∀ j ∈ Region.ready md ops listed, n ≤ j) :
    ∀ (f : Nat) (listed : Array Bool) (a : Act), HeadInv md ops n listed →
      (∀ j oj, ops[j]? = some oj → j ≠ i → listed.getD j true = false → (∀ e ∈ oj.after, Region.binds md e = true → e.on ≠ i) → oi.apart ops oj = true) →
      i ∈ Region.ready md ops listed → YieldsIn P ops C oi v a →
      headQ P md ops C n L f (listed.setIfInBounds i true) (a.put oi.dst v) → headQ P md ops C n L (f + 1) listed a := by
  intro f
  induction f with
  | zero =>
    intro listed a inv _ hr hy H
    have hun := (mem_ready.1 hr).1
    refine ⟨fun h => (by rw [h] at hr; cases hr), fun j hj => ?_⟩
    have hjn : j < n := Nat.lt_of_not_le fun h => absurd hj (tail_waits hs hc hn inv _ i rfl hin hun j h)
    refine ⟨hjn, ?_⟩
    by_cases hji : j = i
    · subst hji; exact hy.qOp hi H
    · have := hdone _ _ H j (ready_mono hj hji)
      omega
  | succ f ih =>
    intro listed a inv hfree hr hy H
    have hun := (mem_ready.1 hr).1
    refine ⟨fun h => (by rw [h] at hr; cases hr), fun j hj => ?_⟩
    have hjn : j < n := Nat.lt_of_not_le fun h => absurd hj (tail_waits hs hc hn inv _ i rfl hin hun j h)
    refine ⟨hjn, ?_⟩
    by_cases hji : j = i
    · subst hji; exact hy.qOp hi H
    · have h1 := (H.2 j (ready_mono hj hji)).2
      obtain ⟨hjun, oj, hoj, hall⟩ := mem_ready.1 hj
      have hnot : ∀ e ∈ oj.after, Region.binds md e = true → e.on ≠ i := fun e he hb heq => by
        have h1 := hall e he hb
        rw [heq, getD_both hun] at h1
        cases h1
      have h2 := qOp_put hoj (hfree j oj hoj hji hjun hnot) (fun cs b => hsel i oi cs b hi) (fun cs b => hsel j oj cs b hoj) hy h1
      have hfree' : ∀ k ok, ops[k]? = some ok → k ≠ i → (listed.setIfInBounds j true).getD k true = false →
          (∀ e ∈ ok.after, Region.binds md e = true → e.on ≠ i) → oi.apart ops ok = true := fun k ok hk hki hu hno => by
        refine hfree k ok hk hki ?_ hno
        by_cases hjk : j = k
        · subst hjk; exact hjun
        · rw [getD_set_ne true hjk] at hu; exact hu
      refine qOp_mono (fun a' h3 => ih (listed.setIfInBounds j true) a' (inv.set hj hjn) hfree' (ready_mono hr (Ne.symm hji)) h3.1 ?_) h2
      rw [Array.setIfInBounds_comm _ _ hji]
      exact h3.2

theorem headQ_lex {n g : Nat} {Lq : Act → Prop} (hsel : Region.noSelect ops = true) (hs : Region.sinkB md ops n = true) (hc : Region.chainB md ops n = true) (hn : n < ops.size) :
    ∀ (l : List Oper) (k : Nat) (listed : Array Bool) (a : Act), (∀ j, j < l.length → l[j]? = ops[k + j]?) → k + l.length = n → HeadInv md ops n listed →
    Region.lexHead md ops g l.length k listed = true → wpQuiet P ops C Lq l a →
    headQ P md ops C n (fun listed' a' => Region.seqB md ops g n listed' = true ∧ Lq a') l.length listed a
  | [], k, listed, a, _, hk, _, hB, h => by
    have : k = n := by simpa using hk
    subst this
    exact ⟨by simpa [Region.lexHead] using hB, h⟩
  | o :: l, k, listed, a, hl, hk, inv, hB, h => by
    have h0 : ops[k]? = some o := by simpa using (hl 0 (by simp)).symm
    simp only [List.length_cons, Region.lexHead, Bool.and_eq_true] at hB
    obtain ⟨⟨hr, hf⟩, hB'⟩ := hB
    have hkn : k < n := by simp only [List.length_cons] at hk; omega
    have hr' : k ∈ Region.ready md ops listed := by simpa using hr
    have hst : qOp P ops C k (wpQuiet P ops C Lq l) a := by unfold qOp; simp only [h0]; exact h
    obtain ⟨v, hy, hK⟩ := yieldsIn_of_qOp h0 hst
    exact headQ_first h0 (Region.noSelect_spec hsel) hs hc hn hkn (fun listed' a' hL => seqB_ready hL.1) l.length listed a inv (Region.free_spec h0 hf) hr' hy
      (headQ_lex hsel hs hc hn l (k + 1) _ _ (fun j hj => by have := hl (j + 1) (by simp; omega); simpa [Nat.add_assoc, Nat.add_comm 1 j] using this) (by simp only [List.length_cons] at hk; omega) (inv.set hr' hkn) hB' hK)

theorem wp_region_calm_tail {id : Nat} {Q : Exit → Act → World → Prop} {a : Act} {w : World} {l : List Oper} (n : Nat) (C : World → Prop) (hm : P.follows .mixedOrders = true) (hB : Region.lexTailB .any l.toArray n = true)
    (hC : C w.drew) (h : wpQuiet P l.toArray C (fun a' => ∀ w', C w' → wpList P l.toArray Q (l.drop n) a' w') (l.take n) a) : (Code.region id l.toArray true).wp P Q a w := by
  simp only [Region.lexTailB, Bool.and_eq_true, decide_eq_true_eq] at hB
  obtain ⟨⟨⟨⟨hsel, hn⟩, hs⟩, hc⟩, hlex⟩ := hB
  have hn' : n < l.length := by simpa using hn
  have htl : (l.take n).length = n := by simp; omega
  have hdl : (l.drop n).length = l.toArray.size - n := by simp
  have inv0 : HeadInv .any l.toArray n (Array.replicate l.toArray.size false) :=
    ⟨by simp, fun j oj _ hl => (by rw [getD_replicate_false] at hl; cases hl), fun t _ ht => getD_in (by simpa using ht) (getD_replicate_false _ _)⟩
  have H := headQ_lex (md := .any) (g := l.toArray.size - n) hsel hs hc hn (l.take n) 0 _ a (fun j hj => by
    have hj' : j < n := by rw [htl] at hj; exact hj
    simp [hj']) (by simpa using htl) inv0 (by rw [htl]; exact hlex) h
  refine wp_region_any hm ?_
  have := wpAny_of_headQ (Q' := Q) (g := l.toArray.size - n) (fun listed a' w' hw' hL => by
    have := wpAny_of_seq (md := .any) (Q' := Q) (l.drop n) n listed a' w' (fun j => by simp [List.getElem?_drop]) (by rw [hdl]; exact hL.1) (hL.2 w' hw')
    rwa [hdl] at this) _ _ _ w.drew hC H
  rw [htl, show n + (l.toArray.size - n) = l.toArray.size by omega] at this
  exact this

/-- What a load or a call may lean on: below W's own blocks all is as in W. -/
def Ext (W w : World) : Prop := Below W.heap.size W w
theorem Ext.start (W : World) : Ext W W.drew := (Below.refl _ _).drew
theorem Ext.refl (W : World) : Ext W W := Below.refl _ _
theorem Ext.below {W w : World} (h : Ext W w) : Below W.heap.size W w := h
theorem Ext.cells {W w : World} (h : Ext W w) : (∀ b o, b < W.heap.size → w.cell? ⟨b, o, none⟩ = W.cell? ⟨b, o, none⟩) ∧ W.heap.size ≤ w.heap.size :=
  ⟨fun b o hb => Below.cell (p := ⟨b, o, none⟩) h hb, Below.size h⟩
theorem Ext.call {W w : World} (h : Ext W w) {f : FuncId} {args : Array Value} {v : Value} (hc : Calls P f args w fun e w' => e = .returned v ∧ Below w.heap.size w w') :
    Calls P f args w fun e w' => e = .returned v ∧ Ext W w' :=
  hc.mono fun _ _ ⟨he, hb⟩ => ⟨he, Below.trans h (hb.mono (Below.size h))⟩
end
end Go.Proofs.YthajaabgcbjfkaaDoor

namespace Go.Proofs.YthajaabgcbjfkaaDoor
open Go.RowKit

/-- The blocks that the head has made so far. -/
def Made := Nat → Obj → Prop
def Made.none : Made := fun _ _ => False
def Made.ins (b : Nat) (ob : Obj) (B : Made) : Made := fun x y => (x = b ∧ y = ob) ∨ B x y
theorem Made.ins_comm (b b' : Nat) (ob ob' : Obj) (B : Made) : Made.ins b ob (Made.ins b' ob' B) = Made.ins b' ob' (Made.ins b ob B) := by
  funext x y; apply propext; unfold Made.ins; constructor <;> (rintro (h | h | h) <;> simp [h])
/-- The world is W, grown, and holds those blocks. -/
def CB (W : World) (B : Made) (w : World) : Prop := Below W.heap.size W w ∧ ∀ x y, B x y → W.heap.size ≤ x ∧ w.heap[x]? = some y

section
variable {P : Program} {ops : Array Oper} {md : Region.Mode} {W : World} {S : Nat → Value ⊕ Obj}

theorem CB.lt {B : Made} {w : World} (h : CB W B w) {x : Nat} {y : Obj} (hb : B x y) : x < w.heap.size := by
  have := (h.2 x y hb).2
  exact (Array.getElem?_eq_some_iff.1 this).1
theorem CB.step {B : Made} {w w' : World} (h : CB W B w) (hb : Below w.heap.size w w') : CB W B w' :=
  ⟨h.1.trans (hb.mono h.1.size), fun x y hxy => ⟨(h.2 x y hxy).1, (hb.block x (h.lt hxy)).trans (h.2 x y hxy).2⟩⟩
theorem CB.alloc {B : Made} {w : World} (h : CB W B w) (ob : Obj) : CB W (Made.ins w.heap.size ob B) (w.alloc ob) := by
  have hs := h.step ((Below.refl w.heap.size w).alloc (Nat.le_refl _) ob)
  refine ⟨hs.1, fun x y hxy => ?_⟩
  rcases hxy with ⟨rfl, rfl⟩ | hxy
  · exact ⟨h.1.size, by show (w.heap.push y)[w.heap.size]? = some y; simp⟩
  · exact hs.2 x y hxy

def quietM (P : Program) (w : World) (v : Value) : Result Next → Prop
  | .ok (.value u) w' => w' = w ∧ u = v
  | .ok .skip w' => w' = w ∧ v = undef
  | .ok (.enter f args) w' => w' = w ∧ Calls P f args w (fun e w'' => e = .returned v ∧ Below w.heap.size w w'')
  | _ => False

/-- What operation 'o' is to do in state 'a': yield a value, in whatever world that is W grown; or make a block. -/
def yieldsM (P : Program) (ops : Array Oper) (W : World) (o : Oper) (a : Act) : Value ⊕ Obj → Prop
  | .inl v => (Region.wanted o (yielded ops a.tmps) = true ∧ ∀ w, Below W.heap.size W w → quietM P w v ((execOp a.eval o).run P w)) ∨ (Region.wanted o (yielded ops a.tmps) = false ∧ v = undef)
  | .inr ob => Region.wanted o (yielded ops a.tmps) = true ∧ ∀ w : World, (execOp a.eval o).run P w = .ok (.value (.pointer (some ⟨w.heap.size, 0, none⟩))) (w.alloc ob)

def nextM (W : World) (s : Value ⊕ Obj) (dst : Option Tmp) (K : Made → Act → Prop) (B : Made) (a : Act) : Prop :=
  match s with
  | .inl v => K B (a.put dst v)
  | .inr ob => ∀ b, W.heap.size ≤ b → (∀ x y, B x y → x ≠ b) → K (Made.ins b ob B) (a.put dst (.pointer (some ⟨b, 0, none⟩)))

def opM (P : Program) (ops : Array Oper) (W : World) (S : Nat → Value ⊕ Obj) (i : Nat) (K : Made → Act → Prop) (B : Made) (a : Act) : Prop :=
  match ops[i]? with
  | none => K B a
  | some o => yieldsM P ops W o a (S i) ∧ nextM W (S i) o.dst K B a

def headM (P : Program) (md : Region.Mode) (ops : Array Oper) (W : World) (S : Nat → Value ⊕ Obj) (n : Nat) (L : Array Bool → Made → Act → Prop) : Nat → Array Bool → Made → Act → Prop
  | 0, listed, B, a => L listed B a
  | f + 1, listed, B, a =>
    Region.ready md ops listed ≠ [] ∧ ∀ i ∈ Region.ready md ops listed, i < n ∧ opM P ops W S i (headM P md ops W S n L f (listed.setIfInBounds i true)) B a

theorem wpOp_of_opM {i : Nat} {a : Act} {B : Made} {w : World} {K : Made → Act → Prop} {K' : Act → World → Prop} {Q' : Exit → Act → World → Prop} (hw : CB W B w) (h : ∀ B a w', CB W B w' → K B a → K' a w')
    (hh : opM P ops W S i K B a) : wpOp P ops Q' i K' a w := by
  unfold opM at hh
  unfold wpOp
  split
  · rename_i ho; simp only [ho] at hh; exact h _ _ _ hw hh
  · rename_i o ho
    simp only [ho] at hh
    obtain ⟨hy, hn⟩ := hh
    generalize S i = s at hy hn
    cases s with
    | inl v =>
      rcases hy with ⟨hwt, hq⟩ | ⟨hwt, rfl⟩
      · rw [if_pos hwt]
        left
        have hq := hq w hw.1
        unfold Oper.wp
        generalize (execOp a.eval o).run P w = r at *
        cases r with
        | ok x w' =>
          cases x <;> simp only [quietM] at hq <;> simp only [Oper.upon]
          case value u =>
            obtain ⟨e1, e2⟩ := hq
            rw [e1, e2]; exact h _ _ _ hw hn
          case skip =>
            obtain ⟨e1, e2⟩ := hq
            rw [e1, ← e2]; exact h _ _ _ hw hn
          case enter f args =>
            obtain ⟨e1, hc⟩ := hq
            rw [e1]
            exact hc.mono fun e w'' ⟨he, hb⟩ => by subst he; exact h _ _ _ (hw.step hb) hn
        | halt x w' => simp only [quietM] at hq
      · rw [if_neg (by rw [hwt]; simp)]
        exact h _ _ _ hw hn
    | inr ob =>
      obtain ⟨hwt, hr⟩ := hy
      rw [if_pos hwt]
      left
      unfold Oper.wp
      rw [hr w]
      simp only [Oper.upon]
      exact h _ _ _ (hw.alloc ob) (hn _ hw.1.size fun x y hxy => Nat.ne_of_lt (hw.lt hxy))

theorem wpAny_of_headM {n g : Nat} {L : Array Bool → Made → Act → Prop} {Q' : Exit → Act → World → Prop} (hL : ∀ listed B a w, CB W B w → L listed B a → wpAny P md ops Q' g listed a w) :
    ∀ (f : Nat) (listed : Array Bool) (B : Made) (a : Act) (w : World), CB W B w → headM P md ops W S n L f listed B a → wpAny P md ops Q' (f + g) listed a w
  | 0, _, _, _, _, hw, h => by rw [Nat.zero_add]; exact hL _ _ _ _ hw h
  | f + 1, listed, B, a, w, hw, h => by
    rw [show f + 1 + g = (f + g) + 1 by omega]
    exact ⟨fun h0 => absurd h0 h.1, fun i hi => wpOp_of_opM hw (fun B' a' w' hw' h' => wpAny_of_headM hL f _ B' a' w' hw' h') (h.2 i hi).2⟩

/-- There is always a block that none of those is. -/
def Bdd (B : Made) : Prop := ∃ N, ∀ x y, B x y → x < N
theorem Bdd.none : Bdd Made.none := ⟨0, fun _ _ h => h.elim⟩
theorem Bdd.ins {B : Made} (h : Bdd B) (b : Nat) (ob : Obj) : Bdd (Made.ins b ob B) := by
  obtain ⟨N, hN⟩ := h
  refine ⟨max N (b + 1), fun x y hxy => ?_⟩
  rcases hxy with ⟨rfl, _⟩ | hxy
  · omega
  · have := hN x y hxy; omega
theorem Bdd.fresh {B : Made} (h : Bdd B) (m : Nat) : ∃ b, m ≤ b ∧ ∀ x y, B x y → x ≠ b := by
  obtain ⟨N, hN⟩ := h
  exact ⟨max N m, by omega, fun x y hxy => by have := hN x y hxy; omega⟩

theorem nextM_mono {s : Value ⊕ Obj} {dst : Option Tmp} {K K' : Made → Act → Prop} {B : Made} {a : Act} (hB : Bdd B) (h : ∀ B' v, Bdd B' → K B' (a.put dst v) → K' B' (a.put dst v)) (hh : nextM W s dst K B a) : nextM W s dst K' B a := by
  cases s with
  | inl v => exact h B v hB hh
  | inr ob => exact fun b h1 h2 => h _ _ (hB.ins b ob) (hh b h1 h2)
theorem nextM_some {s : Value ⊕ Obj} {dst : Option Tmp} {K : Made → Act → Prop} {B : Made} {a : Act} (hB : Bdd B) (hh : nextM W s dst K B a) : ∃ B' v, Bdd B' ∧ K B' (a.put dst v) := by
  cases s with
  | inl v => exact ⟨B, v, hB, hh⟩
  | inr ob =>
    obtain ⟨b, h1, h2⟩ := hB.fresh W.heap.size
    exact ⟨_, _, hB.ins b ob, hh b h1 h2⟩
theorem nextM_comm {s t : Value ⊕ Obj} {x y : Option Tmp} {K : Made → Act → Prop} {B : Made} {a : Act} (hxy : ∀ d, x = some d → y ≠ some d) (hh : nextM W s x (nextM W t y K) B a) : nextM W t y (nextM W s x K) B a := by
  cases s with
  | inl v =>
    cases t with
    | inl u => simp only [nextM] at *; rwa [← Act.put_comm a v u hxy]
    | inr ob => intro b h1 h2; have := hh b h1 h2; simp only [nextM] at *; rwa [← Act.put_comm a v _ hxy]
  | inr ob =>
    cases t with
    | inl u => intro b h1 h2; have := hh b h1 h2; simp only [nextM] at *; rwa [← Act.put_comm a _ u hxy]
    | inr ob' =>
      intro b h1 h2 b' h1' h2'
      have hne : b ≠ b' := h2' b ob' (Or.inl ⟨rfl, rfl⟩)
      have := hh b' h1' (fun x y hxy => h2' x y (Or.inr hxy)) b h1 (fun x y hxy => by
        rcases hxy with ⟨rfl, _⟩ | hxy
        · exact Ne.symm hne
        · exact h2 x y hxy)
      rw [← Act.put_comm a _ _ hxy, Made.ins_comm]
      exact this

theorem yieldsM_put {o : Oper} {a : Act} {s : Value ⊕ Obj} {dst : Option Tmp} {v : Value} (hs : ∀ cs b, o.op ≠ .select cs b) (h : ∀ d, dst = some d → d ∉ o.looksAt ops) : yieldsM P ops W o (a.put dst v) s ↔ yieldsM P ops W o a s := by
  have e1 := execOp_put (ops := ops) o hs a dst v h
  have e2 := wanted_put (ops := ops) o a dst v h
  cases s <;> simp only [yieldsM, e1, e2]

theorem headM_first {n i : Nat} {oi : Oper} {L : Array Bool → Made → Act → Prop} (hi : ops[i]? = some oi) (hsel : ∀ (j : Nat) (o : Oper) cs b, ops[j]? = some o → o.op ≠ .select cs b)
    (hs : Region.sinkB md ops n = true) (hc : Region.chainB md ops n = true) (hn : n < ops.size) (hin : i < n)
    (hdone : ∀ listed B a, L listed B a → ∀ j ∈ Region.ready md ops listed, n ≤ j) :
    ∀ (f : Nat) (listed : Array Bool) (B : Made) (a : Act), HeadInv md ops n listed → Bdd B →
      (∀ j oj, ops[j]? = some oj → j ≠ i → listed.getD j true = false → (∀ e ∈ oj.after, Region.binds md e = true → e.on ≠ i) → oi.apart ops oj = true) →
      i ∈ Region.ready md ops listed → yieldsM P ops W oi a (S i) →
      nextM W (S i) oi.dst (headM P md ops W S n L f (listed.setIfInBounds i true)) B a → headM P md ops W S n L (f + 1) listed B a := by
  have here : ∀ (f : Nat) (listed : Array Bool) (B : Made) (a : Act), yieldsM P ops W oi a (S i) → nextM W (S i) oi.dst (headM P md ops W S n L f (listed.setIfInBounds i true)) B a →
      opM P ops W S i (headM P md ops W S n L f (listed.setIfInBounds i true)) B a := fun f listed B a hy H => by
    unfold opM; simp only [hi]; exact ⟨hy, H⟩
  intro f
  induction f with
  | zero =>
    intro listed B a inv hB _ hr hy H
    have hun := (mem_ready.1 hr).1
    refine ⟨fun h => (by rw [h] at hr; cases hr), fun j hj => ?_⟩
    have hjn : j < n := Nat.lt_of_not_le fun h => absurd hj (tail_waits hs hc hn inv _ i rfl hin hun j h)
    refine ⟨hjn, ?_⟩
    by_cases hji : j = i
    · subst hji; exact here _ _ _ _ hy H
    · obtain ⟨B', v, _, hL⟩ := nextM_some hB H
      have := hdone _ _ _ hL j (ready_mono hj hji)
      omega
  | succ f ih =>
    intro listed B a inv hB hfree hr hy H
    have hun := (mem_ready.1 hr).1
    refine ⟨fun h => (by rw [h] at hr; cases hr), fun j hj => ?_⟩
    have hjn : j < n := Nat.lt_of_not_le fun h => absurd hj (tail_waits hs hc hn inv _ i rfl hin hun j h)
    refine ⟨hjn, ?_⟩
    by_cases hji : j = i
    · subst hji; exact here _ _ _ _ hy H
    · obtain ⟨hjun, oj, hoj, hall⟩ := mem_ready.1 hj
      have hnot : ∀ e ∈ oj.after, Region.binds md e = true → e.on ≠ i := fun e he hb heq => by
        have h1 := hall e he hb
        rw [heq, getD_both hun] at h1
        cases h1
      obtain ⟨p1, p2, p3⟩ := Oper.apart_spec (hfree j oj hoj hji hjun hnot)
      have H1 : nextM W (S i) oi.dst (fun B' a' => yieldsM P ops W oj a' (S j) ∧ nextM W (S j) oj.dst (headM P md ops W S n L f ((listed.setIfInBounds i true).setIfInBounds j true)) B' a') B a :=
        nextM_mono hB (fun B' v _ hK => by
          have h1 := (hK.2 j (ready_mono hj hji)).2
          unfold opM at h1
          simp only [hoj] at h1
          exact h1) H
      have hyj : yieldsM P ops W oj a (S j) := by
        obtain ⟨B', v, _, h1, _⟩ := nextM_some hB H1
        exact (yieldsM_put (fun cs b => hsel j oj cs b hoj) p1).1 h1
      have H2 := nextM_comm p2 (nextM_mono hB (fun B' v _ hK => hK.2) H1)
      have hfree' : ∀ k ok, ops[k]? = some ok → k ≠ i → (listed.setIfInBounds j true).getD k true = false →
          (∀ e ∈ ok.after, Region.binds md e = true → e.on ≠ i) → oi.apart ops ok = true := fun k ok hk hki hu hno => by
        refine hfree k ok hk hki ?_ hno
        by_cases hjk : j = k
        · subst hjk; exact hjun
        · rw [getD_set_ne true hjk] at hu; exact hu
      unfold opM
      simp only [hoj]
      refine ⟨hyj, nextM_mono hB (fun B' v hB' hK => ih (listed.setIfInBounds j true) B' _ (inv.set hj hjn) hB' hfree' (ready_mono hr (Ne.symm hji)) ((yieldsM_put (fun cs b => hsel i oi cs b hi) p3).2 hy) ?_) H2⟩
      rw [Array.setIfInBounds_comm _ _ hji]
      exact hK

/-- The walk in the text's order. -/
def lexM (P : Program) (ops : Array Oper) (W : World) (S : Nat → Value ⊕ Obj) (Q : Made → Act → Prop) : List Oper → Nat → Made → Act → Prop
  | [], _, B, a => Q B a
  | o :: l, k, B, a => yieldsM P ops W o a (S k) ∧ nextM W (S k) o.dst (lexM P ops W S Q l (k + 1)) B a

theorem headM_lex {n g : Nat} {Lq : Made → Act → Prop} (hsel : Region.noSelect ops = true) (hs : Region.sinkB md ops n = true) (hc : Region.chainB md ops n = true) (hn : n < ops.size) :
    ∀ (l : List Oper) (k : Nat) (listed : Array Bool) (B : Made) (a : Act), (∀ j, j < l.length → l[j]? = ops[k + j]?) → k + l.length = n → HeadInv md ops n listed → Bdd B →
    Region.lexHead md ops g l.length k listed = true → lexM P ops W S Lq l k B a →
    headM P md ops W S n (fun listed' B' a' => Region.seqB md ops g n listed' = true ∧ Lq B' a') l.length listed B a
  | [], k, listed, B, a, _, hk, _, _, hB, h => by
    have : k = n := by simpa using hk
    subst this
    exact ⟨by simpa [Region.lexHead] using hB, h⟩
  | o :: l, k, listed, B, a, hl, hk, inv, hBd, hB, h => by
    have h0 : ops[k]? = some o := by simpa using (hl 0 (by simp)).symm
    simp only [List.length_cons, Region.lexHead, Bool.and_eq_true] at hB
    obtain ⟨⟨hr, hf⟩, hB'⟩ := hB
    have hkn : k < n := by simp only [List.length_cons] at hk; omega
    have hr' : k ∈ Region.ready md ops listed := by simpa using hr
    exact headM_first h0 (Region.noSelect_spec hsel) hs hc hn hkn (fun listed' B' a' hL => seqB_ready hL.1) l.length listed B a inv hBd (Region.free_spec h0 hf) hr' h.1
      (nextM_mono hBd (fun B' v hBd' hK => headM_lex hsel hs hc hn l (k + 1) _ B' _ (fun j hj => by have := hl (j + 1) (by simp; omega); simpa [Nat.add_assoc, Nat.add_comm 1 j] using this) (by simp only [List.length_cons] at hk; omega) (inv.set hr' hkn) hBd' hB' hK) h.2)

theorem wp_region_own {id : Nat} {Q : Exit → Act → World → Prop} {a : Act} {w : World} {l : List Oper} (n : Nat) (ss : List (Value ⊕ Obj)) (hm : P.follows .mixedOrders = true) (hB : Region.lexTailB .any l.toArray n = true)
    (h : lexM P l.toArray w (fun i => ss.getD i (.inl undef)) (fun B a' => ∀ w', CB w B w' → wpList P l.toArray Q (l.drop n) a' w') (l.take n) 0 Made.none a) : (Code.region id l.toArray true).wp P Q a w := by
  simp only [Region.lexTailB, Bool.and_eq_true, decide_eq_true_eq] at hB
  obtain ⟨⟨⟨⟨hsel, hn⟩, hs⟩, hc⟩, hlex⟩ := hB
  have hn' : n < l.length := by simpa using hn
  have htl : (l.take n).length = n := by simp; omega
  have hdl : (l.drop n).length = l.toArray.size - n := by simp
  have inv0 : HeadInv .any l.toArray n (Array.replicate l.toArray.size false) :=
    ⟨by simp, fun j oj _ hl => (by rw [getD_replicate_false] at hl; cases hl), fun t _ ht => getD_in (by simpa using ht) (getD_replicate_false _ _)⟩
  have H := headM_lex (md := .any) (g := l.toArray.size - n) hsel hs hc hn (l.take n) 0 _ Made.none a (fun j hj => by
    have hj' : j < n := by rw [htl] at hj; exact hj
    simp [hj']) (by simpa using htl) inv0 Bdd.none (by rw [htl]; exact hlex) h
  refine wp_region_any hm ?_
  have hC : CB w Made.none w.drew := ⟨(Below.refl _ _).drew, fun _ _ h => h.elim⟩
  have := wpAny_of_headM (Q' := Q) (g := l.toArray.size - n) (fun listed B a' w' hw' hL => by
    have := wpAny_of_seq (md := .any) (Q' := Q) (l.drop n) n listed a' w' (fun j => by simp [List.getElem?_drop]) (by rw [hdl]; exact hL.1) (hL.2 w' hw')
    rwa [hdl] at this) _ _ _ _ w.drew hC H
  rw [htl, show n + (l.toArray.size - n) = l.toArray.size by omega] at this
  exact this

/-- One step of that walk: a value. -/
theorem lexM_val {Q : Made → Act → Prop} {o : Oper} {l : List Oper} {k : Nat} {B : Made} {a : Act} {v : Value} (hS : S k = .inl v)
    (h : ∀ K : Act → Prop, (∀ a', lexM P ops W S Q l (k + 1) B a' → K a') → if Region.wanted o (yielded ops a.tmps) = true then (∀ w, Ext W w → quietM P w v ((execOp a.eval o).run P w)) ∧ K (a.put o.dst v) else v = undef ∧ K (a.put o.dst undef)) :
    lexM P ops W S Q (o :: l) k B a := by
  have h0 := h (lexM P ops W S Q l (k + 1) B) (fun _ h => h)
  refine ⟨?_, ?_⟩ <;> rw [hS] <;> by_cases hw : Region.wanted o (yielded ops a.tmps) = true
  · rw [if_pos hw] at h0; exact .inl ⟨hw, h0.1⟩
  · rw [if_neg hw] at h0; exact .inr ⟨by simpa using hw, h0.1⟩
  · rw [if_pos hw] at h0; exact h0.2
  · rw [if_neg hw] at h0; obtain ⟨e, h1⟩ := h0; rw [e]; exact h1
/-- One step of that walk: a block. -/
theorem lexM_mem {Q : Made → Act → Prop} {o : Oper} {l : List Oper} {k : Nat} {B : Made} {a : Act} {ob : Obj} (hS : S k = .inr ob) (hg : o.guard = none)
    (hr : ∀ w : World, (execOp a.eval o).run P w = .ok (.value (.pointer (some ⟨w.heap.size, 0, none⟩))) (w.alloc ob))
    (h : ∀ b, W.heap.size ≤ b → (∀ x y, B x y → x ≠ b) → lexM P ops W S Q l (k + 1) (Made.ins b ob B) (a.put o.dst (.pointer (some ⟨b, 0, none⟩)))) :
    lexM P ops W S Q (o :: l) k B a := by
  refine ⟨?_, ?_⟩ <;> rw [hS]
  · exact ⟨by simp [Region.wanted, hg], hr⟩
  · exact h
end
end Go.Proofs.YthajaabgcbjfkaaDoor

namespace Go.Proofs.YthajaabgcbjfkaaDoor
open Go.RowKit
namespace Own2

/-- The blocks that the head has made so far. -/
def Made := Nat → Nat → Obj → Prop
def Made.none : Made := fun _ _ _ => False
def Made.ins (k b : Nat) (ob : Obj) (B : Made) : Made := fun u x y => (u = k ∧ x = b ∧ y = ob) ∨ B u x y
theorem Made.ins_comm (k k' b b' : Nat) (ob ob' : Obj) (B : Made) : Made.ins k b ob (Made.ins k' b' ob' B) = Made.ins k' b' ob' (Made.ins k b ob B) := by
  funext u x y; apply propext; unfold Made.ins; constructor <;> (rintro (h | h | h) <;> simp [h])
/-- Those of them that an operation waits for. -/
def res (md : Region.Mode) (o : Oper) (B : Made) : Made := fun u x y => B u x y ∧ ∃ e ∈ o.after, Region.binds md e = true ∧ e.on = u
theorem res_ins {md : Region.Mode} {o : Oper} {k b : Nat} {ob : Obj} {B : Made} (h : ∀ e ∈ o.after, Region.binds md e = true → e.on ≠ k) : res md o (Made.ins k b ob B) = res md o B := by
  funext u x y; apply propext; unfold res Made.ins
  constructor
  · rintro ⟨⟨rfl, _, _⟩ | hB, e, he, hb, hu⟩
    · exact absurd hu (h e he hb)
    · exact ⟨hB, e, he, hb, hu⟩
  · rintro ⟨hB, e, he, hb, hu⟩
    exact ⟨.inr hB, e, he, hb, hu⟩
/-- The world is W, grown, and holds those blocks. -/
def CB (W : World) (B : Made) (w : World) : Prop := Below W.heap.size W w ∧ ∀ u x y, B u x y → W.heap.size ≤ x ∧ w.heap[x]? = some y
theorem CB.mono {W w : World} {B B' : Made} (h : CB W B' w) (hs : ∀ u x y, B u x y → B' u x y) : CB W B w := ⟨h.1, fun u x y hb => h.2 u x y (hs u x y hb)⟩

section
variable {P : Program} {ops : Array Oper} {md : Region.Mode} {W : World} {S : Nat → Value ⊕ (Obj × (Nat → Value))}

theorem CB.lt {B : Made} {w : World} (h : CB W B w) {u x : Nat} {y : Obj} (hb : B u x y) : x < w.heap.size := by
  have := (h.2 u x y hb).2
  exact (Array.getElem?_eq_some_iff.1 this).1
theorem CB.step {B : Made} {w w' : World} (h : CB W B w) (hb : Below w.heap.size w w') : CB W B w' :=
  ⟨h.1.trans (hb.mono h.1.size), fun u x y hxy => ⟨(h.2 u x y hxy).1, (hb.block x (h.lt hxy)).trans (h.2 u x y hxy).2⟩⟩
theorem CB.alloc {B : Made} {w : World} (h : CB W B w) (k : Nat) (ob : Obj) : CB W (Made.ins k w.heap.size ob B) (w.alloc ob) := by
  have hs := h.step ((Below.refl w.heap.size w).alloc (Nat.le_refl _) ob)
  refine ⟨hs.1, fun u x y hxy => ?_⟩
  rcases hxy with ⟨rfl, rfl, rfl⟩ | hxy
  · exact ⟨h.1.size, by show (w.heap.push y)[w.heap.size]? = some y; simp⟩
  · exact hs.2 u x y hxy

/-- What operation 'o' is to do in state 'a': yield a value, in whatever world that is W grown; or make a block. -/
def yieldsM (P : Program) (md : Region.Mode) (ops : Array Oper) (W : World) (o : Oper) (B : Made) (a : Act) : Value ⊕ (Obj × (Nat → Value)) → Prop
  | .inl v => (Region.wanted o (yielded ops a.tmps) = true ∧ ∀ w, CB W (res md o B) w → quietM P w v ((execOp a.eval o).run P w)) ∨ (Region.wanted o (yielded ops a.tmps) = false ∧ v = undef)
  | .inr m => Region.wanted o (yielded ops a.tmps) = true ∧ ∀ w : World, (execOp a.eval o).run P w = .ok (.value (m.2 w.heap.size)) (w.alloc m.1)
theorem yieldsM_mono {P : Program} {md : Region.Mode} {ops : Array Oper} {W : World} {o : Oper} {B B' : Made} {a : Act} {s : Value ⊕ (Obj × (Nat → Value))} (hs : ∀ u x y, B u x y → B' u x y) (h : yieldsM P md ops W o B a s) : yieldsM P md ops W o B' a s := by
  cases s with
  | inl v =>
    rcases h with ⟨h1, h2⟩ | h
    · exact .inl ⟨h1, fun w hw => h2 w (hw.mono fun u x y hb => ⟨hs u x y hb.1, hb.2⟩)⟩
    · exact .inr h
  | inr m => exact h

def nextM (W : World) (k : Nat) (s : Value ⊕ (Obj × (Nat → Value))) (dst : Option Tmp) (K : Made → Act → Prop) (B : Made) (a : Act) : Prop :=
  match s with
  | .inl v => K B (a.put dst v)
  | .inr m => ∀ b, W.heap.size ≤ b → (∀ u x y, B u x y → x ≠ b) → K (Made.ins k b m.1 B) (a.put dst (m.2 b))

def opM (P : Program) (md : Region.Mode) (ops : Array Oper) (W : World) (S : Nat → Value ⊕ (Obj × (Nat → Value))) (i : Nat) (K : Made → Act → Prop) (B : Made) (a : Act) : Prop :=
  match ops[i]? with
  | none => K B a
  | some o => yieldsM P md ops W o B a (S i) ∧ nextM W i (S i) o.dst K B a

def headM (P : Program) (md : Region.Mode) (ops : Array Oper) (W : World) (S : Nat → Value ⊕ (Obj × (Nat → Value))) (n : Nat) (L : Array Bool → Made → Act → Prop) : Nat → Array Bool → Made → Act → Prop
  | 0, listed, B, a => L listed B a
  | f + 1, listed, B, a =>
    Region.ready md ops listed ≠ [] ∧ ∀ i ∈ Region.ready md ops listed, i < n ∧ opM P md ops W S i (headM P md ops W S n L f (listed.setIfInBounds i true)) B a

theorem wpOp_of_opM {i : Nat} {a : Act} {B : Made} {w : World} {K : Made → Act → Prop} {K' : Act → World → Prop} {Q' : Exit → Act → World → Prop} (hw : CB W B w) (h : ∀ B a w', CB W B w' → K B a → K' a w')
    (hh : opM P md ops W S i K B a) : wpOp P ops Q' i K' a w := by
  unfold opM at hh
  unfold wpOp
  split
  · rename_i ho; simp only [ho] at hh; exact h _ _ _ hw hh
  · rename_i o ho
    simp only [ho] at hh
    obtain ⟨hy, hn⟩ := hh
    generalize S i = s at hy hn
    cases s with
    | inl v =>
      rcases hy with ⟨hwt, hq⟩ | ⟨hwt, rfl⟩
      · rw [if_pos hwt]
        left
        have hq := hq w (hw.mono fun u x y hb => hb.1)
        unfold Oper.wp
        generalize (execOp a.eval o).run P w = r at *
        cases r with
        | ok x w' =>
          cases x <;> simp only [quietM] at hq <;> simp only [Oper.upon]
          case value u =>
            obtain ⟨e1, e2⟩ := hq
            rw [e1, e2]; exact h _ _ _ hw hn
          case skip =>
            obtain ⟨e1, e2⟩ := hq
            rw [e1, ← e2]; exact h _ _ _ hw hn
          case enter f args =>
            obtain ⟨e1, hc⟩ := hq
            rw [e1]
            exact hc.mono fun e w'' ⟨he, hb⟩ => by subst he; exact h _ _ _ (hw.step hb) hn
        | halt x w' => simp only [quietM] at hq
      · rw [if_neg (by rw [hwt]; simp)]
        exact h _ _ _ hw hn
    | inr m =>
      obtain ⟨hwt, hr⟩ := hy
      rw [if_pos hwt]
      left
      unfold Oper.wp
      rw [hr w]
      simp only [Oper.upon]
      exact h _ _ _ (hw.alloc i m.1) (hn _ hw.1.size fun u x y hxy => Nat.ne_of_lt (hw.lt hxy))

theorem wpAny_of_headM {n g : Nat} {L : Array Bool → Made → Act → Prop} {Q' : Exit → Act → World → Prop} (hL : ∀ listed B a w, CB W B w → L listed B a → wpAny P md ops Q' g listed a w) :
    ∀ (f : Nat) (listed : Array Bool) (B : Made) (a : Act) (w : World), CB W B w → headM P md ops W S n L f listed B a → wpAny P md ops Q' (f + g) listed a w
  | 0, _, _, _, _, hw, h => by rw [Nat.zero_add]; exact hL _ _ _ _ hw h
  | f + 1, listed, B, a, w, hw, h => by
    rw [show f + 1 + g = (f + g) + 1 by omega]
    exact ⟨fun h0 => absurd h0 h.1, fun i hi => wpOp_of_opM hw (fun B' a' w' hw' h' => wpAny_of_headM hL f _ B' a' w' hw' h') (h.2 i hi).2⟩

/-- There is always a block that none of those is. -/
def Bdd (B : Made) : Prop := ∃ N, ∀ u x y, B u x y → x < N
theorem Bdd.none : Bdd Made.none := ⟨0, fun _ _ _ h => h.elim⟩
theorem Bdd.ins {B : Made} (h : Bdd B) (k b : Nat) (ob : Obj) : Bdd (Made.ins k b ob B) := by
  obtain ⟨N, hN⟩ := h
  refine ⟨max N (b + 1), fun u x y hxy => ?_⟩
  rcases hxy with ⟨_, rfl, _⟩ | hxy
  · omega
  · have := hN u x y hxy; omega
theorem Bdd.fresh {B : Made} (h : Bdd B) (m : Nat) : ∃ b, m ≤ b ∧ ∀ u x y, B u x y → x ≠ b := by
  obtain ⟨N, hN⟩ := h
  exact ⟨max N m, by omega, fun u x y hxy => by have := hN u x y hxy; omega⟩
/-- B, and perhaps block k. -/
def Upto (k : Nat) (B B' : Made) : Prop := B' = B ∨ ∃ b ob, B' = Made.ins k b ob B
theorem Upto.sub {k : Nat} {B B' : Made} (h : Upto k B B') : ∀ u x y, B u x y → B' u x y := by
  rcases h with rfl | ⟨b, ob, rfl⟩
  · exact fun _ _ _ h => h
  · exact fun _ _ _ h => .inr h
theorem Upto.res_eq {md : Region.Mode} {o : Oper} {k : Nat} {B B' : Made} (h : Upto k B B') (hn : ∀ e ∈ o.after, Region.binds md e = true → e.on ≠ k) : res md o B' = res md o B := by
  rcases h with rfl | ⟨b, ob, rfl⟩
  · rfl
  · exact res_ins hn
theorem yieldsM_res {P : Program} {md : Region.Mode} {ops : Array Oper} {W : World} {o : Oper} {B B' : Made} {a : Act} {s : Value ⊕ (Obj × (Nat → Value))} (e : res md o B' = res md o B) (h : yieldsM P md ops W o B' a s) : yieldsM P md ops W o B a s := by
  cases s with
  | inl v => simp only [yieldsM] at h ⊢; rw [← e]; exact h
  | inr m => exact h

theorem nextM_mono {k : Nat} {s : Value ⊕ (Obj × (Nat → Value))} {dst : Option Tmp} {K K' : Made → Act → Prop} {B : Made} {a : Act} (hB : Bdd B) (h : ∀ B' v, Bdd B' → Upto k B B' → K B' (a.put dst v) → K' B' (a.put dst v)) (hh : nextM W k s dst K B a) : nextM W k s dst K' B a := by
  cases s with
  | inl v => exact h B v hB (.inl rfl) hh
  | inr m => exact fun b h1 h2 => h _ _ (hB.ins k b m.1) (.inr ⟨b, m.1, rfl⟩) (hh b h1 h2)
theorem nextM_some {k : Nat} {s : Value ⊕ (Obj × (Nat → Value))} {dst : Option Tmp} {K : Made → Act → Prop} {B : Made} {a : Act} (hB : Bdd B) (hh : nextM W k s dst K B a) : ∃ B' v, Bdd B' ∧ Upto k B B' ∧ K B' (a.put dst v) := by
  cases s with
  | inl v => exact ⟨B, v, hB, .inl rfl, hh⟩
  | inr m =>
    obtain ⟨b, h1, h2⟩ := hB.fresh W.heap.size
    exact ⟨_, _, hB.ins k b m.1, .inr ⟨b, m.1, rfl⟩, hh b h1 h2⟩
theorem nextM_comm {i j : Nat} {s t : Value ⊕ (Obj × (Nat → Value))} {x y : Option Tmp} {K : Made → Act → Prop} {B : Made} {a : Act} (hxy : ∀ d, x = some d → y ≠ some d) (hh : nextM W i s x (nextM W j t y K) B a) : nextM W j t y (nextM W i s x K) B a := by
  cases s with
  | inl v =>
    cases t with
    | inl u => simp only [nextM] at *; rwa [← Act.put_comm a v u hxy]
    | inr m => intro b h1 h2; have := hh b h1 h2; simp only [nextM] at *; rwa [← Act.put_comm a v _ hxy]
  | inr m =>
    cases t with
    | inl u => intro b h1 h2; have := hh b h1 h2; simp only [nextM] at *; rwa [← Act.put_comm a _ u hxy]
    | inr m' =>
      intro b h1 h2 b' h1' h2'
      have hne : b ≠ b' := h2' j b m'.1 (Or.inl ⟨rfl, rfl, rfl⟩)
      have := hh b' h1' (fun u x y hxy => h2' u x y (Or.inr hxy)) b h1 (fun u x y hxy => by
        rcases hxy with ⟨_, rfl, _⟩ | hxy
        · exact Ne.symm hne
        · exact h2 u x y hxy)
      rw [← Act.put_comm a _ _ hxy, Made.ins_comm]
      exact this

theorem yieldsM_put {o : Oper} {a : Act} {B : Made} {s : Value ⊕ (Obj × (Nat → Value))} {dst : Option Tmp} {v : Value} (hs : ∀ cs b, o.op ≠ .select cs b) (h : ∀ d, dst = some d → d ∉ o.looksAt ops) : yieldsM P md ops W o B (a.put dst v) s ↔ yieldsM P md ops W o B a s := by
  have e1 := execOp_put (ops := ops) o hs a dst v h
  have e2 := wanted_put (ops := ops) o a dst v h
  cases s <;> simp only [yieldsM, e1, e2]

theorem headM_first {n i : Nat} {oi : Oper} {L : Array Bool → Made → Act → Prop} (hi : ops[i]? = some oi) (hsel : ∀ (j : Nat) (o : Oper) cs b, ops[j]? = some o → o.op ≠ .select cs b)
    (hs : Region.sinkB md ops n = true) (hc : Region.chainB md ops n = true) (hn : n < ops.size) (hin : i < n)
    (hdone : ∀ listed B a, L listed B a → ∀ j ∈ Region.ready md ops listed, n ≤ j) :
    ∀ (f : Nat) (listed : Array Bool) (B : Made) (a : Act), HeadInv md ops n listed → Bdd B →
      (∀ j oj, ops[j]? = some oj → j ≠ i → listed.getD j true = false → (∀ e ∈ oj.after, Region.binds md e = true → e.on ≠ i) → oi.apart ops oj = true) →
      i ∈ Region.ready md ops listed → yieldsM P md ops W oi B a (S i) →
      nextM W i (S i) oi.dst (headM P md ops W S n L f (listed.setIfInBounds i true)) B a → headM P md ops W S n L (f + 1) listed B a := by
  have here : ∀ (f : Nat) (listed : Array Bool) (B : Made) (a : Act), yieldsM P md ops W oi B a (S i) → nextM W i (S i) oi.dst (headM P md ops W S n L f (listed.setIfInBounds i true)) B a →
      opM P md ops W S i (headM P md ops W S n L f (listed.setIfInBounds i true)) B a := fun f listed B a hy H => by
    unfold opM; simp only [hi]; exact ⟨hy, H⟩
  intro f
  induction f with
  | zero =>
    intro listed B a inv hB _ hr hy H
    have hun := (mem_ready.1 hr).1
    refine ⟨fun h => (by rw [h] at hr; cases hr), fun j hj => ?_⟩
    have hjn : j < n := Nat.lt_of_not_le fun h => absurd hj (tail_waits hs hc hn inv _ i rfl hin hun j h)
    refine ⟨hjn, ?_⟩
    by_cases hji : j = i
    · subst hji; exact here _ _ _ _ hy H
    · obtain ⟨B', v, _, _, hL⟩ := nextM_some hB H
      have := hdone _ _ _ hL j (ready_mono hj hji)
      omega
  | succ f ih =>
    intro listed B a inv hB hfree hr hy H
    have hun := (mem_ready.1 hr).1
    refine ⟨fun h => (by rw [h] at hr; cases hr), fun j hj => ?_⟩
    have hjn : j < n := Nat.lt_of_not_le fun h => absurd hj (tail_waits hs hc hn inv _ i rfl hin hun j h)
    refine ⟨hjn, ?_⟩
    by_cases hji : j = i
    · subst hji; exact here _ _ _ _ hy H
    · obtain ⟨hjun, oj, hoj, hall⟩ := mem_ready.1 hj
      have hnot : ∀ e ∈ oj.after, Region.binds md e = true → e.on ≠ i := fun e he hb heq => by
        have h1 := hall e he hb
        rw [heq, getD_both hun] at h1
        cases h1
      obtain ⟨p1, p2, p3⟩ := Oper.apart_spec (hfree j oj hoj hji hjun hnot)
      have H1 : nextM W i (S i) oi.dst (fun B' a' => yieldsM P md ops W oj B' a' (S j) ∧ nextM W j (S j) oj.dst (headM P md ops W S n L f ((listed.setIfInBounds i true).setIfInBounds j true)) B' a') B a :=
        nextM_mono hB (fun B' v _ _ hK => by
          have h1 := (hK.2 j (ready_mono hj hji)).2
          unfold opM at h1
          simp only [hoj] at h1
          exact h1) H
      have hyj : yieldsM P md ops W oj B a (S j) := by
        obtain ⟨B', v, _, hU, h1, _⟩ := nextM_some hB H1
        exact yieldsM_res (hU.res_eq hnot) ((yieldsM_put (fun cs b => hsel j oj cs b hoj) p1).1 h1)
      have H2 := nextM_comm p2 (nextM_mono hB (fun B' v _ _ hK => hK.2) H1)
      have hfree' : ∀ k ok, ops[k]? = some ok → k ≠ i → (listed.setIfInBounds j true).getD k true = false →
          (∀ e ∈ ok.after, Region.binds md e = true → e.on ≠ i) → oi.apart ops ok = true := fun k ok hk hki hu hno => by
        refine hfree k ok hk hki ?_ hno
        by_cases hjk : j = k
        · subst hjk; exact hjun
        · rw [getD_set_ne true hjk] at hu; exact hu
      unfold opM
      simp only [hoj]
      refine ⟨hyj, nextM_mono hB (fun B' v hB' hU hK => ih (listed.setIfInBounds j true) B' _ (inv.set hj hjn) hB' hfree' (ready_mono hr (Ne.symm hji)) ((yieldsM_put (fun cs b => hsel i oi cs b hi) p3).2 (yieldsM_mono hU.sub hy)) ?_) H2⟩
      rw [Array.setIfInBounds_comm _ _ hji]
      exact hK

/-- The walk in the text's order. -/
def lexM (P : Program) (md : Region.Mode) (ops : Array Oper) (W : World) (S : Nat → Value ⊕ (Obj × (Nat → Value))) (Q : Made → Act → Prop) : List Oper → Nat → Made → Act → Prop
  | [], _, B, a => Q B a
  | o :: l, k, B, a => yieldsM P md ops W o B a (S k) ∧ nextM W k (S k) o.dst (lexM P md ops W S Q l (k + 1)) B a

theorem headM_lex {n g : Nat} {Lq : Made → Act → Prop} (hsel : Region.noSelect ops = true) (hs : Region.sinkB md ops n = true) (hc : Region.chainB md ops n = true) (hn : n < ops.size) :
    ∀ (l : List Oper) (k : Nat) (listed : Array Bool) (B : Made) (a : Act), (∀ j, j < l.length → l[j]? = ops[k + j]?) → k + l.length = n → HeadInv md ops n listed → Bdd B →
    Region.lexHead md ops g l.length k listed = true → lexM P md ops W S Lq l k B a →
    headM P md ops W S n (fun listed' B' a' => Region.seqB md ops g n listed' = true ∧ Lq B' a') l.length listed B a
  | [], k, listed, B, a, _, hk, _, _, hB, h => by
    have : k = n := by simpa using hk
    subst this
    exact ⟨by simpa [Region.lexHead] using hB, h⟩
  | o :: l, k, listed, B, a, hl, hk, inv, hBd, hB, h => by
    have h0 : ops[k]? = some o := by simpa using (hl 0 (by simp)).symm
    simp only [List.length_cons, Region.lexHead, Bool.and_eq_true] at hB
    obtain ⟨⟨hr, hf⟩, hB'⟩ := hB
    have hkn : k < n := by simp only [List.length_cons] at hk; omega
    have hr' : k ∈ Region.ready md ops listed := by simpa using hr
    exact headM_first h0 (Region.noSelect_spec hsel) hs hc hn hkn (fun listed' B' a' hL => seqB_ready hL.1) l.length listed B a inv hBd (Region.free_spec h0 hf) hr' h.1
      (nextM_mono hBd (fun B' v hBd' _ hK => headM_lex hsel hs hc hn l (k + 1) _ B' _ (fun j hj => by have := hl (j + 1) (by simp; omega); simpa [Nat.add_assoc, Nat.add_comm 1 j] using this) (by simp only [List.length_cons] at hk; omega) (inv.set hr' hkn) hBd' hB' hK) h.2)

theorem wp_region_own2 {id : Nat} {Q : Exit → Act → World → Prop} {a : Act} {w : World} {l : List Oper} (n : Nat) (ss : List (Value ⊕ (Obj × (Nat → Value)))) (hm : P.follows .mixedOrders = true) (hB : Region.lexTailB .any l.toArray n = true)
    (h : lexM P .any l.toArray w (fun i => ss.getD i (.inl undef)) (fun B a' => ∀ w', CB w B w' → wpList P l.toArray Q (l.drop n) a' w') (l.take n) 0 Made.none a) : (Code.region id l.toArray true).wp P Q a w := by
  simp only [Region.lexTailB, Bool.and_eq_true, decide_eq_true_eq] at hB
  obtain ⟨⟨⟨⟨hsel, hn⟩, hs⟩, hc⟩, hlex⟩ := hB
  have hn' : n < l.length := by simpa using hn
  have htl : (l.take n).length = n := by simp; omega
  have hdl : (l.drop n).length = l.toArray.size - n := by simp
  have inv0 : HeadInv .any l.toArray n (Array.replicate l.toArray.size false) :=
    ⟨by simp, fun j oj _ hl => (by rw [getD_replicate_false] at hl; cases hl), fun t _ ht => getD_in (by simpa using ht) (getD_replicate_false _ _)⟩
  have H := headM_lex (md := .any) (g := l.toArray.size - n) hsel hs hc hn (l.take n) 0 _ Made.none a (fun j hj => by
    have hj' : j < n := by rw [htl] at hj; exact hj
    simp [hj']) (by simpa using htl) inv0 Bdd.none (by rw [htl]; exact hlex) h
  refine wp_region_any hm ?_
  have hC : CB w Made.none w.drew := ⟨(Below.refl _ _).drew, fun _ _ _ h => h.elim⟩
  have := wpAny_of_headM (Q' := Q) (g := l.toArray.size - n) (fun listed B a' w' hw' hL => by
    have := wpAny_of_seq (md := .any) (Q' := Q) (l.drop n) n listed a' w' (fun j => by simp [List.getElem?_drop]) (by rw [hdl]; exact hL.1) (hL.2 w' hw')
    rwa [hdl] at this) _ _ _ _ w.drew hC H
  rw [htl, show n + (l.toArray.size - n) = l.toArray.size by omega] at this
  exact this

/-- One step of that walk: a value. -/
theorem lexM_val {Q : Made → Act → Prop} {o : Oper} {l : List Oper} {k : Nat} {B : Made} {a : Act} {v : Value} (hS : S k = .inl v)
    (h : ∀ K : Act → Prop, (∀ a', lexM P md ops W S Q l (k + 1) B a' → K a') → if Region.wanted o (yielded ops a.tmps) = true then (∀ w, Ext W w → CB W (res md o B) w → quietM P w v ((execOp a.eval o).run P w)) ∧ K (a.put o.dst v) else v = undef ∧ K (a.put o.dst undef)) :
    lexM P md ops W S Q (o :: l) k B a := by
  have h0 := h (lexM P md ops W S Q l (k + 1) B) (fun _ h => h)
  refine ⟨?_, ?_⟩ <;> rw [hS] <;> by_cases hw : Region.wanted o (yielded ops a.tmps) = true
  · rw [if_pos hw] at h0; exact .inl ⟨hw, fun w hc => h0.1 w hc.1 hc⟩
  · rw [if_neg hw] at h0; exact .inr ⟨by simpa using hw, h0.1⟩
  · rw [if_pos hw] at h0; exact h0.2
  · rw [if_neg hw] at h0; obtain ⟨e, h1⟩ := h0; rw [e]; exact h1
/-- One step of that walk: a block. -/
theorem lexM_mem {Q : Made → Act → Prop} {o : Oper} {l : List Oper} {k : Nat} {B : Made} {a : Act} {ob : Obj} {mk : Nat → Value} (hS : S k = .inr (ob, mk)) (hg : Region.wanted o (yielded ops a.tmps) = true)
    (hr : ∀ w : World, (execOp a.eval o).run P w = .ok (.value (mk w.heap.size)) (w.alloc ob))
    (h : ∀ b, W.heap.size ≤ b → (∀ u x y, B u x y → x ≠ b) → lexM P md ops W S Q l (k + 1) (Made.ins k b ob B) (a.put o.dst (mk b))) :
    lexM P md ops W S Q (o :: l) k B a := by
  refine ⟨?_, ?_⟩ <;> rw [hS]
  · exact ⟨hg, hr⟩
  · exact h
end
end Own2
end Go.Proofs.YthajaabgcbjfkaaDoor
