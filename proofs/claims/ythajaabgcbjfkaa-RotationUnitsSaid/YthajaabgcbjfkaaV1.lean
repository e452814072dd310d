/- Contracts: open, of one element and of two; Divide. -/
import Derived.Test.YthajaabgcbjfkaaO2
namespace Go.Proofs.Ythajaabgcbjfkaa
open Go.RowKit

theorem q5_one (x : Qd) (W : World) : ∀ k q, [x][k]? = some q → Q5 (W.alloc (.cells #[.int .i64 x.w, .int .i64 x.x, .int .i64 x.y, .int .i64 x.z, .int .i64 x.d] 23)) W.heap.size k q := by
  intro k q hq
  match k with
  | 0 => simp only [List.getElem?_cons_zero, Option.some.injEq] at hq; subst hq; constructor <;> (rw [cell_of_row _ _ _ _ _ _ (heap_alloc_new W _)]; rfl)
  | k + 1 => simp at hq
theorem q5_two (x y : Qd) (W : World) : ∀ k q, [x, y][k]? = some q → Q5 (W.alloc (.cells #[.int .i64 x.w, .int .i64 x.x, .int .i64 x.y, .int .i64 x.z, .int .i64 x.d, .int .i64 y.w, .int .i64 y.x, .int .i64 y.y, .int .i64 y.z, .int .i64 y.d] 23)) W.heap.size k q := by
  intro k q hq
  match k with
  | 0 => simp only [List.getElem?_cons_zero, Option.some.injEq] at hq; subst hq; constructor <;> (rw [cell_of_row _ _ _ _ _ _ (heap_alloc_new W _)]; rfl)
  | 1 => simp only [List.getElem?_cons_succ, List.getElem?_cons_zero, Option.some.injEq] at hq; subst hq; constructor <;> (rw [cell_of_row _ _ _ _ _ _ (heap_alloc_new W _)]; rfl)
  | k + 2 => simp at hq
theorem open_err1 (x : Qd) (W : World) (h : oerrL [x] ≠ 0) {m : Nat} (hm : m = W.heap.size) :
    Calls Try.prog 64 #[.slice (some ⟨m, 0, none⟩) 1 1] (W.alloc (.cells #[.int .i64 x.w, .int .i64 x.x, .int .i64 x.y, .int .i64 x.z, .int .i64 x.d] 23)) fun e w' => e = .returned (.tuple #[.slice none 0 0, .int .i64 (oerrL [x])]) ∧ Below (W.alloc (.cells #[.int .i64 x.w, .int .i64 x.x, .int .i64 x.y, .int .i64 x.z, .int .i64 x.d] 23)).heap.size (W.alloc (.cells #[.int .i64 x.w, .int .i64 x.x, .int .i64 x.y, .int .i64 x.z, .int .i64 x.d] 23)) w' := by
  subst hm
  refine (open_any [x] W.heap.size 1 _ (by simp) (by simp) (q5_one x W)).mono ?_
  rintro e w' ⟨v, rfl, _, h2, h3⟩
  rw [h2 h]
  exact ⟨rfl, h3⟩
theorem open_err2 (x y : Qd) (W : World) (h : oerrL [x, y] ≠ 0) {m : Nat} (hm : m = W.heap.size) :
    Calls Try.prog 64 #[.slice (some ⟨m, 0, none⟩) 2 2] (W.alloc (.cells #[.int .i64 x.w, .int .i64 x.x, .int .i64 x.y, .int .i64 x.z, .int .i64 x.d, .int .i64 y.w, .int .i64 y.x, .int .i64 y.y, .int .i64 y.z, .int .i64 y.d] 23)) fun e w' => e = .returned (.tuple #[.slice none 0 0, .int .i64 (oerrL [x, y])]) ∧ Below (W.alloc (.cells #[.int .i64 x.w, .int .i64 x.x, .int .i64 x.y, .int .i64 x.z, .int .i64 x.d, .int .i64 y.w, .int .i64 y.x, .int .i64 y.y, .int .i64 y.z, .int .i64 y.d] 23)).heap.size (W.alloc (.cells #[.int .i64 x.w, .int .i64 x.x, .int .i64 x.y, .int .i64 x.z, .int .i64 x.d, .int .i64 y.w, .int .i64 y.x, .int .i64 y.y, .int .i64 y.z, .int .i64 y.d] 23)) w' := by
  subst hm
  refine (open_any [x, y] W.heap.size 2 _ (by simp) (by simp) (q5_two x y W)).mono ?_
  rintro e w' ⟨v, rfl, _, h2, h3⟩
  rw [h2 h]
  exact ⟨rfl, h3⟩

/-- The four numbers of element k of the slice at block g. -/
structure H4 (w : World) (g k : Nat) (q : Qt) : Prop where
  c0 : w.cell? ⟨g, k * 4, none⟩ = some (.int .i64 q.w)
  c1 : w.cell? ⟨g, k * 4 + 1, none⟩ = some (.int .i64 q.x)
  c2 : w.cell? ⟨g, k * 4 + 2, none⟩ = some (.int .i64 q.y)
  c3 : w.cell? ⟨g, k * 4 + 3, none⟩ = some (.int .i64 q.z)
theorem OwnH.h4 {W : World} {base g cap n : Nat} {l : List Qt} (h : OwnH W base (.slice (some ⟨g, 0, none⟩) n cap) l) {k : Nat} {q : Qt} (hq : l[k]? = some q) : H4 W g k q := by
  obtain ⟨h0, h1, h2, h3⟩ := h.at_ hq
  exact ⟨h0, h1, h2, h3⟩

theorem H4.mor {w : World} {g k : Nat} {q : Qt} (h : H4 w g k q) (hg : g < w.heap.size) (gx : Nat × Array Obj) : H4 (more w gx) g k q :=
  ⟨by rw [cell?_more _ _ _ hg]; exact h.c0, by rw [cell?_more _ _ _ hg]; exact h.c1, by rw [cell?_more _ _ _ hg]; exact h.c2, by rw [cell?_more _ _ _ hg]; exact h.c3⟩
theorem H4.two {w : World} {g k : Nat} {q : Qt} (h : H4 w g k q) (hg : g < w.heap.size) (gx gy : Nat × Array Obj) : H4 (more (more w gx) gy) g k q :=
  (h.mor hg gx).mor (Nat.lt_of_lt_of_le hg (size_more w gx)) gy
theorem open_ok1 (x : Qd) (W : World) (h : oerrL [x] = 0) {m : Nat} (hm : m = W.heap.size) :
    Calls Try.prog 64 #[.slice (some ⟨m, 0, none⟩) 1 1] (W.alloc (.cells #[.int .i64 x.w, .int .i64 x.x, .int .i64 x.y, .int .i64 x.z, .int .i64 x.d] 23)) fun e w' => ∃ g cap, e = .returned (.tuple #[.slice (some ⟨g, 0, none⟩) 1 cap, .int .i64 0]) ∧ (g < w'.heap.size ∧ H4 w' g 0 x.rdv) ∧ Below (W.alloc (.cells #[.int .i64 x.w, .int .i64 x.x, .int .i64 x.y, .int .i64 x.z, .int .i64 x.d] 23)).heap.size (W.alloc (.cells #[.int .i64 x.w, .int .i64 x.x, .int .i64 x.y, .int .i64 x.z, .int .i64 x.d] 23)) w' := by
  subst hm
  refine (open_any [x] W.heap.size 1 _ (by simp) (by simp) (q5_one x W)).mono ?_
  rintro e w' ⟨v, rfl, h1, _, h3⟩
  obtain ⟨g, cap, rfl, hg1, hg2, hrow⟩ := (h1 h).slice (by simp)
  rw [h]
  exact ⟨g, cap, rfl, ⟨hg2, (h1 h).h4 rfl⟩, h3⟩
theorem open_ok2 (x y : Qd) (W : World) (h : oerrL [x, y] = 0) {m : Nat} (hm : m = W.heap.size) :
    Calls Try.prog 64 #[.slice (some ⟨m, 0, none⟩) 2 2] (W.alloc (.cells #[.int .i64 x.w, .int .i64 x.x, .int .i64 x.y, .int .i64 x.z, .int .i64 x.d, .int .i64 y.w, .int .i64 y.x, .int .i64 y.y, .int .i64 y.z, .int .i64 y.d] 23)) fun e w' => ∃ g cap, e = .returned (.tuple #[.slice (some ⟨g, 0, none⟩) 2 cap, .int .i64 0]) ∧ (g < w'.heap.size ∧ H4 w' g 0 x.rdv ∧ H4 w' g 1 y.rdv) ∧ Below (W.alloc (.cells #[.int .i64 x.w, .int .i64 x.x, .int .i64 x.y, .int .i64 x.z, .int .i64 x.d, .int .i64 y.w, .int .i64 y.x, .int .i64 y.y, .int .i64 y.z, .int .i64 y.d] 23)).heap.size (W.alloc (.cells #[.int .i64 x.w, .int .i64 x.x, .int .i64 x.y, .int .i64 x.z, .int .i64 x.d, .int .i64 y.w, .int .i64 y.x, .int .i64 y.y, .int .i64 y.z, .int .i64 y.d] 23)) w' := by
  subst hm
  refine (open_any [x, y] W.heap.size 2 _ (by simp) (by simp) (q5_two x y W)).mono ?_
  rintro e w' ⟨v, rfl, h1, _, h3⟩
  obtain ⟨g, cap, rfl, hg1, hg2, hrow⟩ := (h1 h).slice (by simp)
  rw [h]
  exact ⟨g, cap, rfl, ⟨hg2, (h1 h).h4 rfl, (h1 h).h4 rfl⟩, h3⟩
end Go.Proofs.Ythajaabgcbjfkaa
