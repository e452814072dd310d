/- Sorting: the order of quaternions; the closures; slices.SortFunc at Hurwitz quaternions. -/
import Derived.Test.YthajaabgcbjfkaaG2
import Derived.Test.YthajaabgcbjfkaaSort
namespace Go.Proofs.Ythajaabgcbjfkaa
open Go.RowKit Go.Sort

instance : Inhabited Qt := ⟨⟨0, 0, 0, 0⟩⟩
def encQ (q : Qt) : List Value := [.int .i64 q.w, .int .i64 q.x, .int .i64 q.y, .int .i64 q.z]
def flatQ (l : List Qt) : List Value := l.flatMap encQ

/-- Lexicographic order. -/
def Qt.lt (a b : Qt) : Prop := a.w < b.w ∨ (a.w = b.w ∧ (a.x < b.x ∨ (a.x = b.x ∧ (a.y < b.y ∨ (a.y = b.y ∧ a.z < b.z)))))
theorem cmpI_ne (x y : Int) : (cmpI x y != 0) = decide (x ≠ y) := by
  unfold cmpI
  by_cases h1 : x < y
  · have : x ≠ y := by omega
    simp [h1, this]
  · by_cases h2 : y < x
    · have : x ≠ y := by omega
      simp [h1, h2, this]
    · have : x = y := by omega
      simp [this]
theorem cmpI_neg (x y : Int) : cmpI x y < 0 ↔ x < y := by
  unfold cmpI
  by_cases h1 : x < y
  · simp [h1]
  · by_cases h2 : y < x <;> simp [h1, h2]
theorem Qt.cmp_neg (a b : Qt) : a.cmp b < 0 ↔ a.lt b := by
  unfold Qt.cmp Qt.lt
  simp only [cmpI_ne, decide_eq_true_eq]
  by_cases h1 : a.w = b.w
  · by_cases h2 : a.x = b.x
    · by_cases h3 : a.y = b.y
      · simp [h1, h2, h3, cmpI_neg]
      · simp [h1, h2, h3, cmpI_neg]
    · simp [h1, h2, cmpI_neg]
  · simp [h1, cmpI_neg]
theorem Qt.lt_irrefl (a : Qt) : ¬ a.lt a := by unfold Qt.lt; omega
theorem Qt.lt_trans {a b c : Qt} (h1 : a.lt b) (h2 : b.lt c) : a.lt c := by unfold Qt.lt at *; omega
theorem Qt.lt_ntrans {a b c : Qt} (h1 : ¬ a.lt b) (h2 : ¬ b.lt c) : ¬ a.lt c := by unfold Qt.lt at *; omega
theorem Qt.lt_tri {a b : Qt} (h1 : ¬ a.lt b) (h2 : ¬ b.lt a) : a = b := by
  unfold Qt.lt at *
  exact Qt.ext' (by omega) (by omega) (by omega) (by omega)

/-- Ascending, and descending. -/
def cfUp (a b : Qt) : Int := a.cmp b
def cfDn (a b : Qt) : Int := b.cmp a
theorem ltUp (a b : Qt) : ltOf cfUp a b = true ↔ a.lt b := by unfold ltOf cfUp; rw [decide_eq_true_iff, Qt.cmp_neg]
theorem ltDn (a b : Qt) : ltOf cfDn a b = true ↔ b.lt a := by unfold ltOf cfDn; rw [decide_eq_true_iff, Qt.cmp_neg]
theorem swoUp : SWO (ltOf cfUp) where
  irrefl x := by rw [← Bool.not_eq_true, ltUp]; exact Qt.lt_irrefl x
  trans x y z h1 h2 := by rw [ltUp] at *; exact Qt.lt_trans h1 h2
  ntrans x y z h1 h2 := by rw [← Bool.not_eq_true, ltUp] at *; exact Qt.lt_ntrans h1 h2
theorem swoDn : SWO (ltOf cfDn) where
  irrefl x := by rw [← Bool.not_eq_true, ltDn]; exact Qt.lt_irrefl x
  trans x y z h1 h2 := by rw [ltDn] at *; exact Qt.lt_trans h2 h1
  ntrans x y z h1 h2 := by rw [← Bool.not_eq_true, ltDn] at *; exact Qt.lt_ntrans h2 h1

/-- A world that has drawn, and grown. -/
def GrowD (w w' : World) : Prop := ∃ q os, w' = grow (w.drewN q) os
theorem GrowD.refl (w : World) : GrowD w w := ⟨0, #[], by rw [grow_empty]; rfl⟩
theorem GrowD.drewN {w w' : World} (h : GrowD w w') (n : Nat) : GrowD w (w'.drewN n) := by
  obtain ⟨q, os, rfl⟩ := h
  exact ⟨q + n, os, by simp only [grow, World.drewN]; rw [Nat.add_assoc]⟩
theorem GrowD.alloc {w w' : World} (h : GrowD w w') (o : Obj) : GrowD w (w'.alloc o) := by
  obtain ⟨q, os, rfl⟩ := h
  exact ⟨q, os ++ #[o], by rw [alloc_eq_grow, grow_grow]⟩
theorem GrowD.trans {a b c : World} (h : GrowD a b) (k : GrowD b c) : GrowD a c := by
  obtain ⟨q, os, rfl⟩ := h
  obtain ⟨q', os', rfl⟩ := k
  exact ⟨q + q', os ++ os', by simp only [grow, World.drewN, Nat.add_assoc, Array.append_assoc]⟩

theorem quiet_left' {P : Program} {f : FuncId} {args : Array Value} {w : World} {n : Nat} {v : Value}
    (h : Calls P f args (w.drewN n) fun e w' => e = .returned v ∧ w.drewN n = w') : Calls P f args (w.drewN n) fun e w'' => e = .returned v ∧ ∃ m, w'' = w.drewN m :=
  h.mono fun _ _ ⟨he, hw⟩ => ⟨he, n, hw.symm⟩

set_option maxHeartbeats 400000 in
theorem compare_grow (a b : Qt) (w : World) :
    Calls Try.prog 118 #[.agg #[.int .i64 a.w, .int .i64 a.x, .int .i64 a.y, .int .i64 a.z], .agg #[.int .i64 b.w, .int .i64 b.x, .int .i64 b.y, .int .i64 b.z]] w fun e w' => e = .returned (.int .i64 (a.cmp b)) ∧ GrowD w w' := by
  go_enter Try.func118, Try.ntmps118
  go_wp2_with fail
  go_quiet ((go_at_call 126; refine quiet_left' (slicesCompare_any a b w.heap.size (w.heap.size + 1) 4 4 _ ?_ ?_ ?_ ?_ ?_ ?_ ?_ ?_) <;> go_simp))
  go_wp2
  go_ret
  exact ⟨rfl, (((GrowD.refl w).alloc _).alloc _).drewN _⟩

end Go.Proofs.Ythajaabgcbjfkaa
