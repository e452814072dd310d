/- A world that has grown by blocks of a callee's own, written out: 'W.more g'. Over any program. -/
import Derived.Below
import Derived.WalkKit
namespace Go.Proofs.Ythajaabgcbjfkaa
open Go.RowKit

def more (W : World) (g : Nat × Array Obj) : World := { W with heap := W.heap ++ g.2, drawn := g.1 }

theorem more_of_below {W w : World} (h : Below W.heap.size W w) : ∃ g, w = more W g := by
  refine ⟨(w.drawn, w.heap.extract W.heap.size w.heap.size), ?_⟩
  have hh : w.heap = W.heap ++ w.heap.extract W.heap.size w.heap.size := by
    apply Array.ext_getElem?
    intro i
    by_cases hi : i < W.heap.size
    · rw [h.block i hi, Array.getElem?_append_left hi]
    · rw [Array.getElem?_append_right (by omega), Array.getElem?_extract]
      have : W.heap.size + (i - W.heap.size) = i := by omega
      rw [this]
      by_cases hj : i < w.heap.size
      · rw [if_pos (by omega)]
      · rw [if_neg (by omega)]; exact Array.getElem?_eq_none (by omega)
  cases w with
  | mk heap tape drawn os output =>
    have h1 := h.os; have h2 := h.tape; have h3 := h.output
    simp only at h1 h2 h3 hh
    subst h1; subst h2; subst h3
    simp only [more]
    rw [← hh]

section
variable (W : World) (g : Nat × Array Obj)
theorem size_more : W.heap.size ≤ (more W g).heap.size := by simp [more]
theorem heap_more {b : Nat} (h : b < W.heap.size) : (more W g).heap[b]? = W.heap[b]? := by
  simp only [more]; rw [Array.getElem?_append_left h]
theorem below_more {B : Nat} {a : World} (h : Below B a W) (hB : B ≤ W.heap.size) : Below B a (more W g) :=
  Below.trans h ⟨rfl, rfl, rfl, size_more W g, fun k hk => heap_more W g (by omega)⟩
@[go_sem] theorem cell?_more {b : Nat} (o : Nat) (h : b < W.heap.size) : (more W g).cell? ⟨b, o, none⟩ = W.cell? ⟨b, o, none⟩ :=
  World.cell?_of_block (w := W) (heap_more W g h)
@[go_sem] theorem frozen?_more {b : Nat} (o : Nat) (h : b < W.heap.size) : (more W g).frozen? ⟨b, o, none⟩ = W.frozen? ⟨b, o, none⟩ :=
  World.frozen?_of_block (w := W) (heap_more W g h)
@[go_sem] theorem setCell_more {b : Nat} (o : Nat) (v : Value) (h : b < W.heap.size) : (more W g).setCell ⟨b, o, none⟩ v = more (W.setCell ⟨b, o, none⟩ v) g := by
  simp only [more, World.setCell]
  congr 1
  apply Array.ext_getElem?
  intro i
  by_cases hi : i < W.heap.size
  · rw [Array.getElem?_append_left (by simpa using hi)]
    simp only [Array.getElem?_modify]
    rw [Array.getElem?_append_left hi]
  · rw [Array.getElem?_append_right (by simpa using hi)]
    simp only [Array.getElem?_modify, Array.size_modify]
    rw [if_neg (by omega), Array.getElem?_append_right (by omega)]
@[go_sem] theorem more_drew : (more W g).drew = more W (g.1 + 1, g.2) := rfl
@[go_sem] theorem more_of_drew : more W.drew g = more W g := rfl
@[simp, go_sem] theorem size_more_eq : (more W g).heap.size = W.heap.size + g.2.size := by simp [more]
end
@[go_sem] theorem lt_grown1 {b c k0 : Nat} (h : b < c) : b < c + k0 := by omega
@[go_sem] theorem lt_grown2 {b c k0 k1 : Nat} (h : b < c) : b < c + k0 + k1 := by omega
@[go_sem] theorem lt_grown3 {b c k0 k1 k2 : Nat} (h : b < c) : b < c + k0 + k1 + k2 := by omega
@[go_sem] theorem lt_grown4 {b c k0 k1 k2 k3 : Nat} (h : b < c) : b < c + k0 + k1 + k2 + k3 := by omega
@[go_sem] theorem lt_grown5 {b c k0 k1 k2 k3 k4 : Nat} (h : b < c) : b < c + k0 + k1 + k2 + k3 + k4 := by omega
@[go_sem] theorem lt_grown6 {b c k0 k1 k2 k3 k4 k5 : Nat} (h : b < c) : b < c + k0 + k1 + k2 + k3 + k4 + k5 := by omega
@[go_sem] theorem lt_grown7 {b c k0 k1 k2 k3 k4 k5 k6 : Nat} (h : b < c) : b < c + k0 + k1 + k2 + k3 + k4 + k5 + k6 := by omega
@[go_sem] theorem lt_grown8 {b c k0 k1 k2 k3 k4 k5 k6 k7 : Nat} (h : b < c) : b < c + k0 + k1 + k2 + k3 + k4 + k5 + k6 + k7 := by omega
@[go_sem] theorem lt_grown9 {b c k0 k1 k2 k3 k4 k5 k6 k7 k8 : Nat} (h : b < c) : b < c + k0 + k1 + k2 + k3 + k4 + k5 + k6 + k7 + k8 := by omega
@[go_sem] theorem lt_grown10 {b c k0 k1 k2 k3 k4 k5 k6 k7 k8 k9 : Nat} (h : b < c) : b < c + k0 + k1 + k2 + k3 + k4 + k5 + k6 + k7 + k8 + k9 := by omega
@[go_sem] theorem lt_grown11 {b c k0 k1 k2 k3 k4 k5 k6 k7 k8 k9 k10 : Nat} (h : b < c) : b < c + k0 + k1 + k2 + k3 + k4 + k5 + k6 + k7 + k8 + k9 + k10 := by omega
@[go_sem] theorem lt_grown12 {b c k0 k1 k2 k3 k4 k5 k6 k7 k8 k9 k10 k11 : Nat} (h : b < c) : b < c + k0 + k1 + k2 + k3 + k4 + k5 + k6 + k7 + k8 + k9 + k10 + k11 := by omega
@[go_sem] theorem lt_grown13 {b c k0 k1 k2 k3 k4 k5 k6 k7 k8 k9 k10 k11 k12 : Nat} (h : b < c) : b < c + k0 + k1 + k2 + k3 + k4 + k5 + k6 + k7 + k8 + k9 + k10 + k11 + k12 := by omega
@[go_sem] theorem lt_grown14 {b c k0 k1 k2 k3 k4 k5 k6 k7 k8 k9 k10 k11 k12 k13 : Nat} (h : b < c) : b < c + k0 + k1 + k2 + k3 + k4 + k5 + k6 + k7 + k8 + k9 + k10 + k11 + k12 + k13 := by omega
@[go_sem] theorem lt_grown15 {b c k0 k1 k2 k3 k4 k5 k6 k7 k8 k9 k10 k11 k12 k13 k14 : Nat} (h : b < c) : b < c + k0 + k1 + k2 + k3 + k4 + k5 + k6 + k7 + k8 + k9 + k10 + k11 + k12 + k13 + k14 := by omega
@[go_sem] theorem lt_grown16 {b c k0 k1 k2 k3 k4 k5 k6 k7 k8 k9 k10 k11 k12 k13 k14 k15 : Nat} (h : b < c) : b < c + k0 + k1 + k2 + k3 + k4 + k5 + k6 + k7 + k8 + k9 + k10 + k11 + k12 + k13 + k14 + k15 := by omega
@[go_sem] theorem lt_grown17 {b c k0 k1 k2 k3 k4 k5 k6 k7 k8 k9 k10 k11 k12 k13 k14 k15 k16 : Nat} (h : b < c) : b < c + k0 + k1 + k2 + k3 + k4 + k5 + k6 + k7 + k8 + k9 + k10 + k11 + k12 + k13 + k14 + k15 + k16 := by omega
@[go_sem] theorem lt_grown18 {b c k0 k1 k2 k3 k4 k5 k6 k7 k8 k9 k10 k11 k12 k13 k14 k15 k16 k17 : Nat} (h : b < c) : b < c + k0 + k1 + k2 + k3 + k4 + k5 + k6 + k7 + k8 + k9 + k10 + k11 + k12 + k13 + k14 + k15 + k16 + k17 := by omega

/-- A block of the callee's part brought to light. -/
theorem split_block {W w : World} (h : Below W.heap.size W w) {b : Nat} {ob : Obj} (hb : W.heap.size ≤ b) (hob : w.heap[b]? = some ob) :
    ∃ g g', b = W.heap.size + g.2.size ∧ w = more ((more W g).alloc ob) g' := by
  have hbl : b < w.heap.size := (Array.getElem?_eq_some_iff.1 hob).1
  have hsz : (w.heap.extract W.heap.size b).size = b - W.heap.size := by simp; omega
  have hsb : b = W.heap.size + (w.heap.extract W.heap.size b).size := by rw [hsz]; omega
  refine ⟨(0, w.heap.extract W.heap.size b), (w.drawn, w.heap.extract (b + 1) w.heap.size), hsb, ?_⟩
  have hh : w.heap = ((W.heap ++ w.heap.extract W.heap.size b).push ob) ++ w.heap.extract (b + 1) w.heap.size := by
    apply Array.ext_getElem?
    intro i
    have h1 : (W.heap ++ w.heap.extract W.heap.size b).size = b := by simp; omega
    have h2 : ((W.heap ++ w.heap.extract W.heap.size b).push ob).size = b + 1 := by rw [Array.size_push, h1]
    by_cases hi : i < b + 1
    · rw [Array.getElem?_append_left (by omega), Array.getElem?_push, h1]
      by_cases hib : i = b
      · rw [if_pos hib, hib, hob]
      · rw [if_neg hib]
        by_cases hw : i < W.heap.size
        · rw [Array.getElem?_append_left hw, h.block i hw]
        · rw [Array.getElem?_append_right (by omega), Array.getElem?_extract, if_pos (by omega)]
          congr 1; omega
    · rw [Array.getElem?_append_right (by omega), Array.getElem?_extract]
      by_cases hj : i < w.heap.size
      · rw [if_pos (by omega)]; congr 1; omega
      · rw [if_neg (by omega)]; exact Array.getElem?_eq_none (by omega)
  cases w with
  | mk heap tape drawn os output =>
    have h1 := h.os; have h2 := h.tape; have h3 := h.output
    simp only at h1 h2 h3 hh
    subst h1; subst h2; subst h3
    simp only [more, World.alloc]
    rw [← hh]
theorem split_two {W w : World} (h : Below W.heap.size W w) {b c : Nat} {ob oc : Obj} (hb : W.heap.size ≤ b) (hob : w.heap[b]? = some ob) (hoc : w.heap[c]? = some oc) (hlt : b < c) :
    ∃ g g' g'', b = W.heap.size + g.2.size ∧ c = W.heap.size + g.2.size + 1 + g'.2.size ∧ w = more ((more ((more W g).alloc ob) g').alloc oc) g'' := by
  obtain ⟨g, g', hE, hw⟩ := split_block h hb hob
  have hB : Below ((more W g).alloc ob).heap.size ((more W g).alloc ob) w := by rw [hw]; exact below_more _ _ (Below.refl _ _) (Nat.le_refl _)
  have hs : ((more W g).alloc ob).heap.size = W.heap.size + g.2.size + 1 := by simp
  obtain ⟨g2, g3, hE2, hw2⟩ := split_block hB (b := c) (by omega) hoc
  exact ⟨g, g2, g3, hE, by omega, hw2⟩
theorem below_more_alloc (W : World) (g g' : Nat × Array Obj) (ob : Obj) : Below ((more W g).alloc ob).heap.size ((more W g).alloc ob) (more ((more W g).alloc ob) g') := below_more _ _ (Below.refl _ _) (Nat.le_refl _)
end Go.Proofs.Ythajaabgcbjfkaa
