/- slices.SortFunc at Hurwitz quaternions, over a slice of the call's own. -/
import Derived.Test.YthajaabgcbjfkaaS1
namespace Go.Proofs.Ythajaabgcbjfkaa
open Go.RowKit Go.Sort Go.Shelf Go.Lib

set_option maxHeartbeats 400000 in
theorem unitsLess_any (a b : Qt) (w : World) :
    Calls Try.prog 119 #[.agg #[.int .i64 a.w, .int .i64 a.x, .int .i64 a.y, .int .i64 a.z], .agg #[.int .i64 b.w, .int .i64 b.x, .int .i64 b.y, .int .i64 b.z]] w fun e w' => e = .returned (.int .i64 (cfDn a b)) ∧ GrowD w w' := by
  go_enter Try.func119, Try.ntmps119
  go_wp2_with (first | (go_at_call 118; with_reducible refine (compare_grow _ _ _).mono ?_; rintro e w1 ⟨rfl, hg⟩))
  go_ret
  exact ⟨rfl, (((GrowD.refl w).alloc _).alloc _).trans hg⟩
set_option maxHeartbeats 400000 in
theorem ofNormLess_any (a b : Qt) (w : World) :
    Calls Try.prog 117 #[.agg #[.int .i64 a.w, .int .i64 a.x, .int .i64 a.y, .int .i64 a.z], .agg #[.int .i64 b.w, .int .i64 b.x, .int .i64 b.y, .int .i64 b.z]] w fun e w' => e = .returned (.int .i64 (cfUp a b)) ∧ GrowD w w' := by
  go_enter Try.func117, Try.ntmps117
  go_wp2_with (first | (go_at_call 118; with_reducible refine (compare_grow _ _ _).mono ?_; rintro e w1 ⟨rfl, hg⟩))
  go_ret
  exact ⟨rfl, (((GrowD.refl w).alloc _).alloc _).trans hg⟩

theorem cmpLaysDn (blk off size : Nat) (w : World) : CmpLays Try.prog 119 #[] encQ 4 cfDn blk off size w :=
  fun _ _ _ _ x y => unitsLess_any x y _
theorem cmpLaysUp (blk off size : Nat) (w : World) : CmpLays Try.prog 117 #[] encQ 4 cfUp blk off size w :=
  fun _ _ _ _ x y => ofNormLess_any x y _

theorem flatQ_length (l : List Qt) : (flatQ l).length = l.length * 4 := by
  induction l with
  | nil => rfl
  | cons q l ih => simp only [flatQ, List.flatMap_cons, List.length_append] at *; rw [ih]; simp [encQ]; omega
theorem flatQ_append (l m : List Qt) : flatQ (l ++ m) = flatQ l ++ flatQ m := by simp [flatQ]
theorem flatQ_get (l : List Qt) (i : Nat) (q : Qt) (h : l[i]? = some q) (j : Nat) (hj : j < 4) : (flatQ l)[i * 4 + j]? = (encQ q)[j]? := by
  induction l generalizing i with
  | nil => simp at h
  | cons p l ih =>
    cases i with
    | zero =>
      simp only [List.getElem?_cons_zero, Option.some.injEq] at h
      subst h
      show (encQ p ++ flatQ l)[0 * 4 + j]? = _
      rw [Nat.zero_mul, Nat.zero_add, List.getElem?_append_left (by simp [encQ]; omega)]
    | succ i =>
      show (encQ p ++ flatQ l)[(i + 1) * 4 + j]? = _
      rw [List.getElem?_append_right (by simp [encQ]; omega)]
      have : (i + 1) * 4 + j - (encQ p).length = i * 4 + j := by simp [encQ]; omega
      rw [this]
      exact ih i (by simpa using h)

theorem flatK_eq (l : List Qt) : (flatK encQ 4 l.toArray).toList = flatQ l := by
  apply List.ext_getElem?
  intro t
  by_cases ht : t < l.length * 4
  · have hi : t / 4 < l.length := by omega
    have h1 := flatQ_get l (t / 4) l[t / 4] (List.getElem?_eq_getElem hi) (t % 4) (Nat.mod_lt _ (by omega))
    have h2 : t / 4 * 4 + t % 4 = t := by omega
    rw [h2] at h1
    rw [h1, Array.getElem?_toList]
    simp only [flatK, List.size_toArray, Array.getElem?_map, Array.getElem?_range, ht, if_true, Option.map_some]
    have h3 : l.toArray[t / 4]! = l[t / 4] := by simp [hi]
    rw [h3]
    have h4 : t % 4 < (encQ l[t / 4]).length := by simp [encQ]; omega
    rw [getElem!_pos (encQ l[t / 4]) (t % 4) h4, List.getElem?_eq_getElem h4]
  · rw [List.getElem?_eq_none (by simp; omega), List.getElem?_eq_none (by rw [flatQ_length]; omega)]

def sortUp (l : List Qt) : List Qt := l.mergeSort fun x y => !(ltOf cfUp) y x
def sortDn (l : List Qt) : List Qt := l.mergeSort fun x y => !(ltOf cfDn) y x
theorem length_sortUp (l : List Qt) : (sortUp l).length = l.length := List.length_mergeSort _
theorem length_sortDn (l : List Qt) : (sortDn l).length = l.length := List.length_mergeSort _

theorem holdsK_of_own {w : World} {base g cap : Nat} {e : TypeId} {l : List Qt} (h : w.ownsRow base e 4 (.slice (some ⟨g, 0, none⟩) l.length cap) l.length (flatQ l)) : HoldsK encQ 4 w g 0 l.toArray ∧ g < w.heap.size := by
  obtain ⟨hl, h2⟩ := h
  rcases h2 with ⟨h2, _⟩ | ⟨g', cap', cur, hv, hg, hh, hn, hcap, hsz, htk⟩
  · cases h2
  · obtain ⟨rfl, rfl⟩ : g' = g ∧ cap' = cap := by injection hv with e1 e2 e3; injection e1 with e1; injection e1 with e1; exact ⟨e1.symm, e3.symm⟩
    refine ⟨fun j hj => ?_, (Array.getElem?_eq_some_iff.1 hh).1⟩
    have hj' : j < l.length * 4 := by simpa using hj
    have hc : w.cell? ⟨g', 0 + j, none⟩ = cur[j]? := by rw [Nat.zero_add]; exact cell_of_row w g' j cur e (0, 0) hh
    have hf : w.frozen? ⟨g', 0 + j, none⟩ = false := by rw [Nat.zero_add]; exact frozen_of_row w g' j cur e hh
    refine ⟨?_, hf⟩
    rw [hc]
    have h1 : (flatQ l)[j]? = cur[j]? := by
      rw [← htk, List.getElem?_take_of_lt hj', Array.getElem?_toList]
    have h2 : (flatK encQ 4 l.toArray)[j]? = (flatQ l)[j]? := by rw [← flatK_eq, Array.getElem?_toList]
    rw [← h1, ← h2, Array.getElem?_eq_getElem (by simpa using hj')]
    rw [getElem!_pos (flatK encQ 4 l.toArray) j (by simpa using hj')]
    rfl

theorem own_sorted {w : World} {base g cap n : Nat} {e : TypeId} {os : Array Obj} {l m : List Qt} (hm : m.length = l.length) (h : w.ownsRow base e 4 (.slice (some ⟨g, 0, none⟩) l.length cap) l.length (flatQ l)) :
    (sortWorldK encQ 4 w g 0 n m.toArray os).ownsRow base e 4 (.slice (some ⟨g, 0, none⟩) l.length cap) l.length (flatQ m) ∧ w.grownBy (sortWorldK encQ 4 w g 0 n m.toArray os) (some g) := by
  obtain ⟨hl, h2⟩ := h
  rcases h2 with ⟨h2, _⟩ | ⟨g', cap', cur, hv, hg, hh, hn, hcap, hsz, htk⟩
  · cases h2
  · obtain ⟨rfl, rfl⟩ : g' = g ∧ cap' = cap := by injection hv with e1 e2 e3; injection e1 with e1; injection e1 with e1; exact ⟨e1.symm, e3.symm⟩
    have hgl : g' < w.heap.size := (Array.getElem?_eq_some_iff.1 hh).1
    have hold : ∀ k, k < w.heap.size → (sortWorldK encQ 4 w g' 0 n m.toArray os).heap[k]? = (putRowK encQ 4 (Sort.ahead w n) g' 0 m.toArray).heap[k]? := fun k hk => by
      have hk2 : k < (putRowK encQ 4 (Sort.ahead w n) g' 0 m.toArray).heap.size := by simpa [putRowK] using hk
      unfold sortWorldK grow
      show ((putRowK encQ 4 (Sort.ahead w n) g' 0 m.toArray).heap ++ os)[k]? = _
      rw [Array.getElem?_append_left hk2]
    refine ⟨⟨by rw [flatQ_length, hm], .inr ⟨g', cap', putCells id 0 (flatK encQ 4 m.toArray) cur, rfl, hg, ?_, hn, hcap, by simp [putCells, hsz], ?_⟩⟩, rfl, rfl, rfl, ?_, fun k hk hne => ?_⟩
    · rw [hold g' hgl]
      simp [putRowK, putRow, mapBlock, Sort.ahead, Array.getElem?_modify, hh, onCells]
    · apply List.ext_getElem?
      intro j
      have hsz' : (flatK encQ 4 m.toArray).size = l.length * 4 := by simp [hm]
      by_cases hj : j < l.length * 4
      · have hjc : j < cur.size := by
          have : l.length * 4 ≤ cap' * 4 := Nat.mul_le_mul_right 4 hn
          omega
        rw [List.getElem?_take_of_lt hj, Array.getElem?_toList, ← flatK_eq, Array.getElem?_toList]
        simp only [putCells, Array.getElem?_mapIdx, hsz', Nat.zero_le, Nat.zero_add, hj, and_self, if_true, Nat.sub_zero, id]
        rw [Array.getElem?_eq_getElem hjc, Option.map_some, Array.getElem?_eq_getElem (by rw [hsz']; exact hj), getElem!_pos (flatK encQ 4 m.toArray) j (by rw [hsz']; exact hj)]
      · rw [List.getElem?_eq_none (by simp; omega), List.getElem?_eq_none (by rw [flatQ_length]; omega)]
    · simp [sortWorldK, grow, putRowK]
    · rw [hold k hk]
      have hk' : g' ≠ k := fun e => hne (by rw [e])
      simp [putRowK, putRow, mapBlock, Sort.ahead, Array.getElem?_modify, hk']

theorem totUp : ∀ x y, (ltOf cfUp) x y = false → (ltOf cfUp) y x = false → x = y := fun x y h1 h2 => by
  rw [← Bool.not_eq_true, ltUp] at *; exact Qt.lt_tri h1 h2
theorem totDn : ∀ x y, (ltOf cfDn) x y = false → (ltOf cfDn) y x = false → x = y := fun x y h1 h2 => by
  rw [← Bool.not_eq_true, ltDn] at *; exact Qt.lt_tri h2 h1

theorem encQ_one : ∀ x, ∀ v ∈ encQ x, v.oneCell' = true := fun x v hv => by
  simp only [encQ, List.mem_cons, List.not_mem_nil, or_false] at hv
  rcases hv with rfl | rfl | rfl | rfl <;> rfl

theorem sortDn_any (base g cap : Nat) (l : List Qt) (w : World) (h : w.ownsRow base 96 4 (.slice (some ⟨g, 0, none⟩) l.length cap) l.length (flatQ l)) (hn : l.length < 4611686018427387904) :
    Calls Try.prog 116 #[.slice (some ⟨g, 0, none⟩) l.length cap, .func (.func 119) #[] #[]] w fun e w' =>
      e = .returned (.tuple #[]) ∧ w'.ownsRow base 96 4 (.slice (some ⟨g, 0, none⟩) l.length cap) l.length (flatQ (sortDn l)) ∧ w.grownBy w' (some g) := by
  have eg : ∀ args w, (callFunc 119 args).run Try.prog w = .ok (.enter 119 args) w := enters_of Try.func119 (by kernel_rfl) rfl
  obtain ⟨hH, hg⟩ := holdsK_of_own h
  have hcon := AnyQ.slices_SortFunc_total Try.sortH 4 Try.isAgg96 Try.sizeOf96 encQ (fun _ => rfl) encQ_one cfDn swoDn 119 #[] g 0 cap l.toArray w eg (cmpLaysDn g 0 _ w) hH hg (by simpa using hn) totDn
  refine Calls.mono hcon ?_
  rintro e w' ⟨he, n, os, rfl⟩
  exact ⟨he, own_sorted (length_sortDn l) h⟩
theorem sortUp_any (base g cap : Nat) (l : List Qt) (w : World) (h : w.ownsRow base 96 4 (.slice (some ⟨g, 0, none⟩) l.length cap) l.length (flatQ l)) (hn : l.length < 4611686018427387904) :
    Calls Try.prog 116 #[.slice (some ⟨g, 0, none⟩) l.length cap, .func (.func 117) #[] #[]] w fun e w' =>
      e = .returned (.tuple #[]) ∧ w'.ownsRow base 96 4 (.slice (some ⟨g, 0, none⟩) l.length cap) l.length (flatQ (sortUp l)) ∧ w.grownBy w' (some g) := by
  have eg : ∀ args w, (callFunc 117 args).run Try.prog w = .ok (.enter 117 args) w := enters_of Try.func117 (by kernel_rfl) rfl
  obtain ⟨hH, hg⟩ := holdsK_of_own h
  have hcon := AnyQ.slices_SortFunc_total Try.sortH 4 Try.isAgg96 Try.sizeOf96 encQ (fun _ => rfl) encQ_one cfUp swoUp 117 #[] g 0 cap l.toArray w eg (cmpLaysUp g 0 _ w) hH hg (by simpa using hn) totUp
  refine Calls.mono hcon ?_
  rintro e w' ⟨he, n, os, rfl⟩
  exact ⟨he, own_sorted (length_sortUp l) h⟩
end Go.Proofs.Ythajaabgcbjfkaa
