/- Sorting: the order of quaternions; the closures; slices.SortFunc at Hurwitz quaternions. slices.SortFunc at Hurwitz quaternions, over a slice of the call's own. Contract: the units. Contract: the units. Contract: the canonical associate. Contract: the common divisor (by remainders). -/
import Derived.Test.YthajaabgcbjfkaaDoorA1
import Derived.Test.YthajaabgcbjfkaaDoorSort
import Derived.Test.YthajaabgcbjfkaaDoorH1
import Derived.Test.YthajaabgcbjfkaaDoorH3
import Derived.Deep.LoopGhost
namespace Go.Proofs.YthajaabgcbjfkaaDoor
open Go.RowKit Go.Sort

instance : Inhabited Qt := ⟨⟨0, 0, 0, 0⟩⟩
def encQ (q : Qt) : List Value := [.int .i64 q.w, .int .i64 q.x, .int .i64 q.y, .int .i64 q.z]
def flatQ (l : List Qt) : List Value := l.flatMap encQ

/-- Lexicographic order. -/
def Qt.lt (a b : Qt) : Prop := a.w < b.w ∨ (a.w = b.w ∧ (a.x < b.x ∨ (a.x = b.x ∧ (a.y < b.y ∨ (a.y = b.y ∧ a.z < b.z)))))
theorem cmpI_ne (x y : Int) : (cmpI x y != 0) = decide (x ≠ y) := by
  unfold cmpI
  by_cases h1 : x < y
  · have : x ≠ y := by omega
    simp [h1, this]
  · by_cases h2 : y < x
    · have : x ≠ y := by omega
      simp [h1, h2, this]
    · have : x = y := by omega
      simp [this]
theorem cmpI_neg (x y : Int) : cmpI x y < 0 ↔ x < y := by
  unfold cmpI
  by_cases h1 : x < y
  · simp [h1]
  · by_cases h2 : y < x <;> simp [h1, h2]
theorem Qt.cmp_neg (a b : Qt) : a.cmp b < 0 ↔ a.lt b := by
  unfold Qt.cmp Qt.lt
  simp only [cmpI_ne, decide_eq_true_eq]
  by_cases h1 : a.w = b.w
  · by_cases h2 : a.x = b.x
    · by_cases h3 : a.y = b.y
      · simp [h1, h2, h3, cmpI_neg]
      · simp [h1, h2, h3, cmpI_neg]
    · simp [h1, h2, cmpI_neg]
  · simp [h1, cmpI_neg]
theorem Qt.lt_irrefl (a : Qt) : ¬ a.lt a := by unfold Qt.lt; omega
theorem Qt.lt_trans {a b c : Qt} (h1 : a.lt b) (h2 : b.lt c) : a.lt c := by unfold Qt.lt at *; omega
theorem Qt.lt_ntrans {a b c : Qt} (h1 : ¬ a.lt b) (h2 : ¬ b.lt c) : ¬ a.lt c := by unfold Qt.lt at *; omega
theorem Qt.lt_tri {a b : Qt} (h1 : ¬ a.lt b) (h2 : ¬ b.lt a) : a = b := by
  unfold Qt.lt at *
  exact Qt.ext' (by omega) (by omega) (by omega) (by omega)

/-- Ascending, and descending. -/
def cfUp (a b : Qt) : Int := a.cmp b
def cfDn (a b : Qt) : Int := b.cmp a
theorem ltUp (a b : Qt) : ltOf cfUp a b = true ↔ a.lt b := by unfold ltOf cfUp; rw [decide_eq_true_iff, Qt.cmp_neg]
theorem ltDn (a b : Qt) : ltOf cfDn a b = true ↔ b.lt a := by unfold ltOf cfDn; rw [decide_eq_true_iff, Qt.cmp_neg]
theorem swoUp : SWO (ltOf cfUp) where
  irrefl x := by rw [← Bool.not_eq_true, ltUp]; exact Qt.lt_irrefl x
  trans x y z h1 h2 := by rw [ltUp] at *; exact Qt.lt_trans h1 h2
  ntrans x y z h1 h2 := by rw [← Bool.not_eq_true, ltUp] at *; exact Qt.lt_ntrans h1 h2
theorem swoDn : SWO (ltOf cfDn) where
  irrefl x := by rw [← Bool.not_eq_true, ltDn]; exact Qt.lt_irrefl x
  trans x y z h1 h2 := by rw [ltDn] at *; exact Qt.lt_trans h2 h1
  ntrans x y z h1 h2 := by rw [← Bool.not_eq_true, ltDn] at *; exact Qt.lt_ntrans h2 h1

/-- A world that has drawn, and grown. -/
def GrowD (w w' : World) : Prop := ∃ q os, w' = grow (w.drewN q) os
theorem GrowD.refl (w : World) : GrowD w w := ⟨0, #[], by rw [grow_empty]; rfl⟩
theorem GrowD.drewN {w w' : World} (h : GrowD w w') (n : Nat) : GrowD w (w'.drewN n) := by
  obtain ⟨q, os, rfl⟩ := h
  exact ⟨q + n, os, by simp only [grow, World.drewN]; rw [Nat.add_assoc]⟩
theorem GrowD.alloc {w w' : World} (h : GrowD w w') (o : Obj) : GrowD w (w'.alloc o) := by
  obtain ⟨q, os, rfl⟩ := h
  exact ⟨q, os ++ #[o], by rw [alloc_eq_grow, grow_grow]⟩
theorem GrowD.trans {a b c : World} (h : GrowD a b) (k : GrowD b c) : GrowD a c := by
  obtain ⟨q, os, rfl⟩ := h
  obtain ⟨q', os', rfl⟩ := k
  exact ⟨q + q', os ++ os', by simp only [grow, World.drewN, Nat.add_assoc, Array.append_assoc]⟩

theorem quiet_left' {P : Program} {f : FuncId} {args : Array Value} {w : World} {n : Nat} {v : Value}
    (h : Calls P f args (w.drewN n) fun e w' => e = .returned v ∧ w.drewN n = w') : Calls P f args (w.drewN n) fun e w'' => e = .returned v ∧ ∃ m, w'' = w.drewN m :=
  h.mono fun _ _ ⟨he, hw⟩ => ⟨he, n, hw.symm⟩

set_option maxHeartbeats 400000 in
theorem compare_grow (a b : Qt) (w : World) :
    Calls Tryd.prog 22 #[.agg #[.int .i64 a.w, .int .i64 a.x, .int .i64 a.y, .int .i64 a.z], .agg #[.int .i64 b.w, .int .i64 b.x, .int .i64 b.y, .int .i64 b.z]] w fun e w' => e = .returned (.int .i64 (a.cmp b)) ∧ GrowD w w' := by
  go_enter Tryd.func22, Tryd.ntmps22
  go_wp2_with fail
  go_quiet ((go_at_call 49; refine quiet_left' (slicesCompare_any a b w.heap.size (w.heap.size + 1) 4 4 _ ?_ ?_ ?_ ?_ ?_ ?_ ?_ ?_) <;> go_simp))
  go_wp2
  go_ret
  exact ⟨rfl, (((GrowD.refl w).alloc _).alloc _).drewN _⟩

end Go.Proofs.YthajaabgcbjfkaaDoor

namespace Go.Proofs.YthajaabgcbjfkaaDoor
open Go.RowKit Go.Sort Go.Shelf Go.Lib

set_option maxHeartbeats 400000 in
theorem unitsLess_any (a b : Qt) (w : World) :
    Calls Tryd.prog 85 #[.agg #[.int .i64 a.w, .int .i64 a.x, .int .i64 a.y, .int .i64 a.z], .agg #[.int .i64 b.w, .int .i64 b.x, .int .i64 b.y, .int .i64 b.z]] w fun e w' => e = .returned (.int .i64 (cfDn a b)) ∧ GrowD w w' := by
  go_enter Tryd.func85, Tryd.ntmps85
  go_wp2_with (first | (go_at_call 22; with_reducible refine (compare_grow _ _ _).mono ?_; rintro e w1 ⟨rfl, hg⟩))
  go_ret
  exact ⟨rfl, (((GrowD.refl w).alloc _).alloc _).trans hg⟩
set_option maxHeartbeats 400000 in
theorem ofNormLess_any (a b : Qt) (w : World) :
    Calls Tryd.prog 55 #[.agg #[.int .i64 a.w, .int .i64 a.x, .int .i64 a.y, .int .i64 a.z], .agg #[.int .i64 b.w, .int .i64 b.x, .int .i64 b.y, .int .i64 b.z]] w fun e w' => e = .returned (.int .i64 (cfUp a b)) ∧ GrowD w w' := by
  go_enter Tryd.func55, Tryd.ntmps55
  go_wp2_with (first | (go_at_call 22; with_reducible refine (compare_grow _ _ _).mono ?_; rintro e w1 ⟨rfl, hg⟩))
  go_ret
  exact ⟨rfl, (((GrowD.refl w).alloc _).alloc _).trans hg⟩

theorem cmpLaysDn (blk off size : Nat) (w : World) : CmpLays Tryd.prog 85 #[] encQ 4 cfDn blk off size w :=
  fun _ _ _ _ x y => unitsLess_any x y _
theorem cmpLaysUp (blk off size : Nat) (w : World) : CmpLays Tryd.prog 55 #[] encQ 4 cfUp blk off size w :=
  fun _ _ _ _ x y => ofNormLess_any x y _

theorem flatQ_length (l : List Qt) : (flatQ l).length = l.length * 4 := by
  induction l with
  | nil => rfl
  | cons q l ih => simp only [flatQ, List.flatMap_cons, List.length_append] at *; rw [ih]; simp [encQ]; omega
theorem flatQ_append (l m : List Qt) : flatQ (l ++ m) = flatQ l ++ flatQ m := by simp [flatQ]
theorem flatQ_get (l : List Qt) (i : Nat) (q : Qt) (h : l[i]? = some q) (j : Nat) (hj : j < 4) : (flatQ l)[i * 4 + j]? = (encQ q)[j]? := by
  induction l generalizing i with
  | nil => simp at h
  | cons p l ih =>
    cases i with
    | zero =>
      simp only [List.getElem?_cons_zero, Option.some.injEq] at h
      subst h
      show (encQ p ++ flatQ l)[0 * 4 + j]? = _
      rw [Nat.zero_mul, Nat.zero_add, List.getElem?_append_left (by simp [encQ]; omega)]
    | succ i =>
      show (encQ p ++ flatQ l)[(i + 1) * 4 + j]? = _
      rw [List.getElem?_append_right (by simp [encQ]; omega)]
      have : (i + 1) * 4 + j - (encQ p).length = i * 4 + j := by simp [encQ]; omega
      rw [this]
      exact ih i (by simpa using h)

theorem flatK_eq (l : List Qt) : (flatK encQ 4 l.toArray).toList = flatQ l := by
  apply List.ext_getElem?
  intro t
  by_cases ht : t < l.length * 4
  · have hi : t / 4 < l.length := by omega
    have h1 := flatQ_get l (t / 4) l[t / 4] (List.getElem?_eq_getElem hi) (t % 4) (Nat.mod_lt _ (by omega))
    have h2 : t / 4 * 4 + t % 4 = t := by omega
    rw [h2] at h1
    rw [h1, Array.getElem?_toList]
    simp only [flatK, List.size_toArray, Array.getElem?_map, Array.getElem?_range, ht, if_true, Option.map_some]
    have h3 : l.toArray[t / 4]! = l[t / 4] := by simp [hi]
    rw [h3]
    have h4 : t % 4 < (encQ l[t / 4]).length := by simp [encQ]; omega
    rw [getElem!_pos (encQ l[t / 4]) (t % 4) h4, List.getElem?_eq_getElem h4]
  · rw [List.getElem?_eq_none (by simp; omega), List.getElem?_eq_none (by rw [flatQ_length]; omega)]

def sortUp (l : List Qt) : List Qt := l.mergeSort fun x y => !(ltOf cfUp) y x
def sortDn (l : List Qt) : List Qt := l.mergeSort fun x y => !(ltOf cfDn) y x
theorem length_sortUp (l : List Qt) : (sortUp l).length = l.length := List.length_mergeSort _
theorem length_sortDn (l : List Qt) : (sortDn l).length = l.length := List.length_mergeSort _

theorem holdsK_of_own {w : World} {base g cap : Nat} {e : TypeId} {l : List Qt} (h : w.ownsRow base e 4 (.slice (some ⟨g, 0, none⟩) l.length cap) l.length (flatQ l)) : HoldsK encQ 4 w g 0 l.toArray ∧ g < w.heap.size := by
  obtain ⟨hl, h2⟩ := h
  rcases h2 with ⟨h2, _⟩ | ⟨g', cap', cur, hv, hg, hh, hn, hcap, hsz, htk⟩
  · cases h2
  · obtain ⟨rfl, rfl⟩ : g' = g ∧ cap' = cap := by injection hv with e1 e2 e3; injection e1 with e1; injection e1 with e1; exact ⟨e1.symm, e3.symm⟩
    refine ⟨fun j hj => ?_, (Array.getElem?_eq_some_iff.1 hh).1⟩
    have hj' : j < l.length * 4 := by simpa using hj
    have hc : w.cell? ⟨g', 0 + j, none⟩ = cur[j]? := by rw [Nat.zero_add]; exact cell_of_row w g' j cur e (0, 0) hh
    have hf : w.frozen? ⟨g', 0 + j, none⟩ = false := by rw [Nat.zero_add]; exact frozen_of_row w g' j cur e hh
    refine ⟨?_, hf⟩
    rw [hc]
    have h1 : (flatQ l)[j]? = cur[j]? := by
      rw [← htk, List.getElem?_take_of_lt hj', Array.getElem?_toList]
    have h2 : (flatK encQ 4 l.toArray)[j]? = (flatQ l)[j]? := by rw [← flatK_eq, Array.getElem?_toList]
    rw [← h1, ← h2, Array.getElem?_eq_getElem (by simpa using hj')]
    rw [getElem!_pos (flatK encQ 4 l.toArray) j (by simpa using hj')]
    rfl

theorem own_sorted {w : World} {base g cap n : Nat} {e : TypeId} {os : Array Obj} {l m : List Qt} (hm : m.length = l.length) (h : w.ownsRow base e 4 (.slice (some ⟨g, 0, none⟩) l.length cap) l.length (flatQ l)) :
    (sortWorldK encQ 4 w g 0 n m.toArray os).ownsRow base e 4 (.slice (some ⟨g, 0, none⟩) l.length cap) l.length (flatQ m) ∧ w.grownBy (sortWorldK encQ 4 w g 0 n m.toArray os) (some g) := by
  obtain ⟨hl, h2⟩ := h
  rcases h2 with ⟨h2, _⟩ | ⟨g', cap', cur, hv, hg, hh, hn, hcap, hsz, htk⟩
  · cases h2
  · obtain ⟨rfl, rfl⟩ : g' = g ∧ cap' = cap := by injection hv with e1 e2 e3; injection e1 with e1; injection e1 with e1; exact ⟨e1.symm, e3.symm⟩
    have hgl : g' < w.heap.size := (Array.getElem?_eq_some_iff.1 hh).1
    have hold : ∀ k, k < w.heap.size → (sortWorldK encQ 4 w g' 0 n m.toArray os).heap[k]? = (putRowK encQ 4 (Sort.ahead w n) g' 0 m.toArray).heap[k]? := fun k hk => by
      have hk2 : k < (putRowK encQ 4 (Sort.ahead w n) g' 0 m.toArray).heap.size := by simpa [putRowK] using hk
      unfold sortWorldK grow
      show ((putRowK encQ 4 (Sort.ahead w n) g' 0 m.toArray).heap ++ os)[k]? = _
      rw [Array.getElem?_append_left hk2]
    refine ⟨⟨by rw [flatQ_length, hm], .inr ⟨g', cap', putCells id 0 (flatK encQ 4 m.toArray) cur, rfl, hg, ?_, hn, hcap, by simp [putCells, hsz], ?_⟩⟩, rfl, rfl, rfl, ?_, fun k hk hne => ?_⟩
    · rw [hold g' hgl]
      simp [putRowK, putRow, mapBlock, Sort.ahead, Array.getElem?_modify, hh, onCells]
    · apply List.ext_getElem?
      intro j
      have hsz' : (flatK encQ 4 m.toArray).size = l.length * 4 := by simp [hm]
      by_cases hj : j < l.length * 4
      · have hjc : j < cur.size := by
          have : l.length * 4 ≤ cap' * 4 := Nat.mul_le_mul_right 4 hn
          omega
        rw [List.getElem?_take_of_lt hj, Array.getElem?_toList, ← flatK_eq, Array.getElem?_toList]
        simp only [putCells, Array.getElem?_mapIdx, hsz', Nat.zero_le, Nat.zero_add, hj, and_self, if_true, Nat.sub_zero, id]
        rw [Array.getElem?_eq_getElem hjc, Option.map_some, Array.getElem?_eq_getElem (by rw [hsz']; exact hj), getElem!_pos (flatK encQ 4 m.toArray) j (by rw [hsz']; exact hj)]
      · rw [List.getElem?_eq_none (by simp; omega), List.getElem?_eq_none (by rw [flatQ_length]; omega)]
    · simp [sortWorldK, grow, putRowK]
    · rw [hold k hk]
      have hk' : g' ≠ k := fun e => hne (by rw [e])
      simp [putRowK, putRow, mapBlock, Sort.ahead, Array.getElem?_modify, hk']

theorem totUp : ∀ x y, (ltOf cfUp) x y = false → (ltOf cfUp) y x = false → x = y := fun x y h1 h2 => by
  rw [← Bool.not_eq_true, ltUp] at *; exact Qt.lt_tri h1 h2
theorem totDn : ∀ x y, (ltOf cfDn) x y = false → (ltOf cfDn) y x = false → x = y := fun x y h1 h2 => by
  rw [← Bool.not_eq_true, ltDn] at *; exact Qt.lt_tri h2 h1

theorem encQ_one : ∀ x, ∀ v ∈ encQ x, v.oneCell' = true := fun x v hv => by
  simp only [encQ, List.mem_cons, List.not_mem_nil, or_false] at hv
  rcases hv with rfl | rfl | rfl | rfl <;> rfl

theorem sortDn_any (base g cap : Nat) (l : List Qt) (w : World) (h : w.ownsRow base 80 4 (.slice (some ⟨g, 0, none⟩) l.length cap) l.length (flatQ l)) (hn : l.length < 4611686018427387904) :
    Calls Tryd.prog 54 #[.slice (some ⟨g, 0, none⟩) l.length cap, .func (.func 85) #[] #[]] w fun e w' =>
      e = .returned (.tuple #[]) ∧ w'.ownsRow base 80 4 (.slice (some ⟨g, 0, none⟩) l.length cap) l.length (flatQ (sortDn l)) ∧ w.grownBy w' (some g) := by
  have eg : ∀ args w, (callFunc 85 args).run Tryd.prog w = .ok (.enter 85 args) w := enters_of Tryd.func85 (by kernel_rfl) rfl
  obtain ⟨hH, hg⟩ := holdsK_of_own h
  have hcon := AnyQ.slices_SortFunc_total Tryd.sortH 4 Tryd.isAgg80 Tryd.sizeOf80 encQ (fun _ => rfl) encQ_one cfDn swoDn 85 #[] g 0 cap l.toArray w eg (cmpLaysDn g 0 _ w) hH hg (by simpa using hn) totDn
  refine Calls.mono hcon ?_
  rintro e w' ⟨he, n, os, rfl⟩
  exact ⟨he, own_sorted (length_sortDn l) h⟩
theorem sortUp_any (base g cap : Nat) (l : List Qt) (w : World) (h : w.ownsRow base 80 4 (.slice (some ⟨g, 0, none⟩) l.length cap) l.length (flatQ l)) (hn : l.length < 4611686018427387904) :
    Calls Tryd.prog 54 #[.slice (some ⟨g, 0, none⟩) l.length cap, .func (.func 55) #[] #[]] w fun e w' =>
      e = .returned (.tuple #[]) ∧ w'.ownsRow base 80 4 (.slice (some ⟨g, 0, none⟩) l.length cap) l.length (flatQ (sortUp l)) ∧ w.grownBy w' (some g) := by
  have eg : ∀ args w, (callFunc 55 args).run Tryd.prog w = .ok (.enter 55 args) w := enters_of Tryd.func55 (by kernel_rfl) rfl
  obtain ⟨hH, hg⟩ := holdsK_of_own h
  have hcon := AnyQ.slices_SortFunc_total Tryd.sortH 4 Tryd.isAgg80 Tryd.sizeOf80 encQ (fun _ => rfl) encQ_one cfUp swoUp 55 #[] g 0 cap l.toArray w eg (cmpLaysUp g 0 _ w) hH hg (by simpa using hn) totUp
  refine Calls.mono hcon ?_
  rintro e w' ⟨he, n, os, rfl⟩
  exact ⟨he, own_sorted (length_sortUp l) h⟩
end Go.Proofs.YthajaabgcbjfkaaDoor

namespace Go.Proofs.YthajaabgcbjfkaaDoor
open Go.RowKit

theorem hurInfo : (Tryd.prog.info? 80).map (fun i => (i.zero, i.size, i.bytes)) = some (some (.agg #[.int .i64 0, .int .i64 0, .int .i64 0, .int .i64 0]), 4, 32) := by kernel_rfl

/-- The slice v of the call's own holds the Hurwitz quaternions l. -/
def OwnH (w : World) (base : Nat) (v : Value) (l : List Qt) : Prop := w.ownsRow base 80 4 v l.length (flatQ l)
theorem OwnH.nil (w : World) (base : Nat) : OwnH w base (.slice none 0 0) [] := ⟨by simp [flatQ], .inl ⟨rfl, rfl⟩⟩
theorem OwnH.alloc {w : World} {base : Nat} {v : Value} {l : List Qt} (h : OwnH w base v l) (o : Obj) : OwnH (w.alloc o) base v l := World.ownsRow.alloc h o
theorem OwnH.slice {w : World} {base : Nat} {v : Value} {l : List Qt} (h : OwnH w base v l) (hl : l ≠ []) : ∃ g cap, v = .slice (some ⟨g, 0, none⟩) l.length cap ∧ base ≤ g ∧ g < w.heap.size ∧ w.ownsRow base 80 4 (.slice (some ⟨g, 0, none⟩) l.length cap) l.length (flatQ l) := by
  have h' := h
  rcases h.2 with ⟨_, h0⟩ | ⟨g, cap, cur, rfl, hg, hh, _⟩
  · exact absurd (List.eq_nil_of_length_eq_zero h0) hl
  · exact ⟨g, cap, rfl, hg, (Array.getElem?_eq_some_iff.1 hh).1, h'⟩

/-- append of one Hurwitz quaternion that lies in the newest block. -/
theorem append_hur {w0 w : World} {base : Nat} {v : Value} {l : List Qt} (hown : OwnH w base v l) (hB : Below base w0 w) (hbase : base ≤ w.heap.size) (q : Qt) (hlen : l.length < 1000000)
    {ops : Array Oper} {rest : List Oper} {o : Oper} {a : Act} {Q : Exit → Act → World → Prop} (hgd : o.guard = none) (s x : Operand)
    (ho : o.op = .call { callee := .builtin .append, args := #[s, x], argTypes := #[75, 75] })
    (hs : a.eval s = v) {m : Nat} (hx : a.eval x = .slice (some ⟨m, 0, none⟩) 1 1) (hm : m = w.heap.size)
    (h : ∀ v' w', OwnH w' base v' (l ++ [q]) → Below base w0 w' → base ≤ w'.heap.size → wpList Tryd.prog ops Q rest (a.put o.dst v') w') : wpList Tryd.prog ops Q (o :: rest) a (w.alloc (.cells #[.int .i64 q.w, .int .i64 q.x, .int .i64 q.y, .int .i64 q.z] 80)) := by
  subst hm
  obtain ⟨i0, hi0, hz0, hz1, hz2⟩ := info_parts hurInfo
  refine wpList_append_own _ hgd s x 75 ho base 80 i0 _ 4 32 Tryd.underlying75 hi0 hz0 hz1 hz2 rfl (by omega) v l.length (flatQ l) hs (hown.alloc _)
    ⟨w.heap.size, 0, none⟩ 1 1 (encQ q) hx rfl ?_ (encQ_one q) (by simp only [maxLen]; omega) (by omega) (by simp; omega) ?_
  · intro j u hu
    have : (⟨w.heap.size, 0, none⟩ : Addr).add j = ⟨w.heap.size, j, none⟩ := by unfold Addr.add; split <;> simp_all
    rw [this, cell_of_row _ _ _ _ _ _ (heap_alloc_new w _)]
    simpa [encQ] using hu
  · intro v' w' h1 h2 _
    have hsz : w.heap.size ≤ w'.heap.size := Nat.le_trans (by simp) h2.size
    refine h v' w' (by unfold OwnH; rw [flatQ_append]; simpa [flatQ] using h1) ((hB.alloc hbase _).grown h2 (by simp; omega) ?_) (by omega)
    intro k hk
    exact (hown.lt k hk).1
end Go.Proofs.YthajaabgcbjfkaaDoor

namespace Go.Proofs.YthajaabgcbjfkaaDoor
open Go.RowKit

def unA : List Qt := [⟨2, 0, 0, 0⟩, ⟨-2, 0, 0, 0⟩, ⟨0, 2, 0, 0⟩, ⟨0, -2, 0, 0⟩, ⟨0, 0, 2, 0⟩, ⟨0, 0, -2, 0⟩, ⟨0, 0, 0, 2⟩, ⟨0, 0, 0, -2⟩]
def unB : List Qt := [⟨1, 1, 1, 1⟩, ⟨-1, 1, 1, 1⟩, ⟨1, -1, 1, 1⟩, ⟨-1, -1, 1, 1⟩, ⟨1, 1, -1, 1⟩, ⟨-1, 1, -1, 1⟩, ⟨1, -1, -1, 1⟩, ⟨-1, -1, -1, 1⟩, ⟨1, 1, 1, -1⟩, ⟨-1, 1, 1, -1⟩, ⟨1, -1, 1, -1⟩, ⟨-1, -1, 1, -1⟩, ⟨1, 1, -1, -1⟩, ⟨-1, 1, -1, -1⟩, ⟨1, -1, -1, -1⟩, ⟨-1, -1, -1, -1⟩]
theorem four (k : Nat) (h : k < 4) : k = 0 ∨ k = 1 ∨ k = 2 ∨ k = 3 := by omega
theorem two (k : Nat) (h : k < 2) : k = 0 ∨ k = 1 := by omega
theorem sixteen (k : Nat) (h : k < 16) : k = 0 ∨ k = 1 ∨ k = 2 ∨ k = 3 ∨ k = 4 ∨ k = 5 ∨ k = 6 ∨ k = 7 ∨ k = 8 ∨ k = 9 ∨ k = 10 ∨ k = 11 ∨ k = 12 ∨ k = 13 ∨ k = 14 ∨ k = 15 := by omega

/-- What the loops keep. -/
def UInv (B : Nat) (w0 : World) (v : Value) (l : List Qt) (w : World) : Prop := OwnH w B v l ∧ Below B w0 w ∧ B ≤ w.heap.size

set_option maxRecDepth 10000 in
set_option maxHeartbeats 4000000 in
theorem units_any (w : World) :
    Calls Tryd.prog 76 #[] w fun e w' => ∃ g cap, e = .returned (.slice (some ⟨g, 0, none⟩) 24 cap) ∧ w.heap.size ≤ g ∧ OwnH w' w.heap.size (.slice (some ⟨g, 0, none⟩) 24 cap) (sortDn (unA ++ unB)) ∧ Below w.heap.size w w' := by
  have j0 : ∀ (w : World), (Instr.index 129 (.agg #[.int .i64 2, .int .i64 (-2)]) (.int .i64 0)).run Tryd.prog w = .ok (.int .i64 2) w := fun _ => by kernel_rfl
  have j1 : ∀ (w : World), (Instr.index 129 (.agg #[.int .i64 2, .int .i64 (-2)]) (.int .i64 1)).run Tryd.prog w = .ok (.int .i64 (-2)) w := fun _ => by kernel_rfl
  go_enter Tryd.func76, Tryd.ntmps76
  go_wp2
  go_loopw [1, 9] (fun v i wr => ∃ k : Nat, k ≤ 4 ∧ i = .int .i64 k ∧ UInv w.heap.size w v (unA.take (2 * k)) wr) (fun _ i _ => 4 - (intOf i).toNat)
  case atStart => exact ⟨0, by omega, rfl, OwnH.nil _ _, Below.refl _ _, Nat.le_refl _⟩
  case round =>
    obtain ⟨k, hk, rfl, hown, hB, hz⟩ := hrel
    by_cases hk4 : k < 4
    · obtain ⟨wo, rfl⟩ : ∃ wo : World, wo = wr := ⟨_, rfl⟩
      rcases four k hk4 with rfl | rfl | rfl | rfl
      all_goals
        go_wp2
        refine wp_loop_rounds 3 ?_
        rw [rounds_succ]
        go_wp2_with (first | (at_builtin; go_must (refine append_hur (hown.alloc _) (hB.alloc hz _) (by simp; omega) ⟨_, _, _, _⟩ (by decide) rfl (.tmp 20) (.tmp 22) rfl (by rfl) (by rfl) (by simp) ?_); intro v1 w1 hown1 hB1 hz1))
        clear hown hB hz
        rw [rounds_succ]
        go_wp2_with (first | (at_builtin; refine append_hur (hown1.alloc _) (hB1.alloc hz1 _) (by simp; omega) ⟨_, _, _, _⟩ (by decide) rfl (.tmp 20) (.tmp 22) rfl (by rfl) (by rfl) (by simp) ?_; intro v2 w2 hown2 hB2 hz2))
        clear hown1 hB1 hz1
        rw [rounds_succ]
        go_wp2
        go_roundw
        case rel => first | exact ⟨1, by omega, by go_num, hown2, hB2, hz2⟩ | exact ⟨2, by omega, by go_num, hown2, hB2, hz2⟩ | exact ⟨3, by omega, by go_num, hown2, hB2, hz2⟩ | exact ⟨4, by omega, by go_num, hown2, hB2, hz2⟩
        case measure => simp [intOf]
    · obtain rfl : k = 4 := by omega
      obtain ⟨wo, rfl⟩ : ∃ wo : World, wo = wr := ⟨_, rfl⟩
      go_wp2
      simp only [show ((4 : Nat) : Int) = 4 from rfl]
      go_loopw [1, 26] (fun v i wr => ∃ k : Nat, k ≤ 16 ∧ i = .int .i64 k ∧ UInv w.heap.size w v (unA ++ unB.take k) wr) (fun _ i _ => 16 - (intOf i).toNat)
      case atStart => exact ⟨0, by omega, rfl, hown, hB, hz⟩
      case round =>
        clear hown hB hz
        obtain ⟨k, hk, rfl, hown, hB, hz⟩ := hrel
        by_cases hk16 : k < 16
        · obtain ⟨wo, rfl⟩ : ∃ wo : World, wo = wr := ⟨_, rfl⟩
          rcases sixteen k hk16 with rfl | rfl | rfl | rfl | rfl | rfl | rfl | rfl | rfl | rfl | rfl | rfl | rfl | rfl | rfl | rfl
          all_goals
            go_wp2
            refine wp_loop_rounds 5 ?_
            iterate 4 (rw [rounds_succ]; go_wp2)
            rw [rounds_succ]
            go_wp2_with (first | (at_builtin; go_must (refine append_hur (hown.alloc _) (hB.alloc hz _) (by simp; omega) ⟨_, _, _, _⟩ (by decide) rfl (.tmp 43) (.tmp 45) rfl (by rfl) (by rfl) (by simp) ?_); intro v2 w2 hown2 hB2 hz2))
            go_roundw
            case rel => first | exact ⟨1, by omega, by go_num, hown2, hB2, hz2⟩ | exact ⟨2, by omega, by go_num, hown2, hB2, hz2⟩ | exact ⟨3, by omega, by go_num, hown2, hB2, hz2⟩ | exact ⟨4, by omega, by go_num, hown2, hB2, hz2⟩ | exact ⟨5, by omega, by go_num, hown2, hB2, hz2⟩ | exact ⟨6, by omega, by go_num, hown2, hB2, hz2⟩ | exact ⟨7, by omega, by go_num, hown2, hB2, hz2⟩ | exact ⟨8, by omega, by go_num, hown2, hB2, hz2⟩ | exact ⟨9, by omega, by go_num, hown2, hB2, hz2⟩ | exact ⟨10, by omega, by go_num, hown2, hB2, hz2⟩ | exact ⟨11, by omega, by go_num, hown2, hB2, hz2⟩ | exact ⟨12, by omega, by go_num, hown2, hB2, hz2⟩ | exact ⟨13, by omega, by go_num, hown2, hB2, hz2⟩ | exact ⟨14, by omega, by go_num, hown2, hB2, hz2⟩ | exact ⟨15, by omega, by go_num, hown2, hB2, hz2⟩ | exact ⟨16, by omega, by go_num, hown2, hB2, hz2⟩
            case measure => simp [intOf]
        · obtain rfl : k = 16 := by omega
          obtain ⟨wo, rfl⟩ : ∃ wo : World, wo = wr := ⟨_, rfl⟩
          obtain ⟨g, cap, rfl, hg1, hg2, hrow⟩ := hown.slice (by decide)
          go_wp2_with (first | (go_at_call 54; refine (sortDn_any w.heap.size g cap (unA ++ unB.take 16) _ hrow (by decide)).mono ?_; rintro e w1 ⟨rfl, hown1, hgr⟩))
          go_ret
          have e16 : unA ++ unB.take 16 = unA ++ unB := rfl
          rw [e16] at hown1
          exact ⟨g, cap, rfl, hg1, by unfold OwnH; rw [length_sortDn]; exact hown1, hB.grown hgr hz (fun k hk => by injection hk with hk; omega)⟩

end Go.Proofs.YthajaabgcbjfkaaDoor

namespace Go.Proofs.YthajaabgcbjfkaaDoor
open Go.RowKit

/-- The units as the Go text lists them. -/
def unitsL : List Qt := sortDn (unA ++ unB)
def canStep (x b u : Qt) : Qt := if 0 < ((x.mul u).over 2).cmp b then (x.mul u).over 2 else b
def canon (x : Qt) : Qt := unitsL.foldl (canStep x) x
theorem unitsL_length : unitsL.length = 24 := length_sortDn _
theorem canFold_snoc (x : Qt) (l : List Qt) (u : Qt) : (l ++ [u]).foldl (canStep x) x = canStep x (l.foldl (canStep x) x) u := by simp

theorem OwnH.mor {W : World} {base : Nat} {v : Value} {l : List Qt} (h : OwnH W base v l) (g : Nat × Array Obj) : OwnH (more W g) base v l := by
  obtain ⟨h1, h2⟩ := h
  refine ⟨h1, ?_⟩
  rcases h2 with h2 | ⟨g', cap, cur, hv, hg, hh, r⟩
  · exact .inl h2
  · exact .inr ⟨g', cap, cur, hv, hg, by rw [heap_more W g (Array.getElem?_eq_some_iff.1 hh).1]; exact hh, r⟩
theorem OwnH.setCell {W : World} {base : Nat} {v : Value} {l : List Qt} (h : OwnH W base v l) {p : Addr} (hp : p.block < base) (u : Value) : OwnH (W.setCell p u) base v l := ownsRow_setCell_below h hp u
theorem OwnH.drewN {W : World} {base : Nat} {v : Value} {l : List Qt} (h : OwnH W base v l) (n : Nat) : OwnH (W.drewN n) base v l := h
/-- The cells of element k. -/
theorem OwnH.at_ {W : World} {base g cap n : Nat} {l : List Qt} (h : OwnH W base (.slice (some ⟨g, 0, none⟩) n cap) l) {k : Nat} {q : Qt} (hq : l[k]? = some q) :
    W.cell? ⟨g, k * 4, none⟩ = some (.int .i64 q.w) ∧ W.cell? ⟨g, k * 4 + 1, none⟩ = some (.int .i64 q.x) ∧ W.cell? ⟨g, k * 4 + 2, none⟩ = some (.int .i64 q.y) ∧ W.cell? ⟨g, k * 4 + 3, none⟩ = some (.int .i64 q.z) := by
  obtain ⟨_, h2⟩ := h
  rcases h2 with ⟨h2, _⟩ | ⟨g', cap', cur, hv, hg, hh, hn, hcap, hsz, htk⟩
  · cases h2
  · obtain rfl : g' = g := by injection hv with e1 e2 e3; injection e1 with e1; injection e1 with e1; exact e1.symm
    have hk : k < l.length := (List.getElem?_eq_some_iff.1 hq).1
    have key : ∀ j v, j < 4 → (encQ q)[j]? = some v → W.cell? ⟨g', k * 4 + j, none⟩ = some v := fun j v hj hv => by
      rw [cell_of_row W g' _ cur _ (0, 0) hh]
      have h1 := flatQ_get l k q hq j hj
      rw [hv, ← htk, List.getElem?_take_of_lt (by omega), Array.getElem?_toList] at h1
      exact h1
    exact ⟨key 0 _ (by omega) rfl, key 1 _ (by omega) rfl, key 2 _ (by omega) rfl, key 3 _ (by omega) rfl⟩

theorem ownH_swap {W W' : World} {base : Nat} {v : Value} {l : List Qt} {g : Nat × Array Obj} (h : OwnH (more W g) base v l) (hs : W'.heap.size = W.heap.size) (hb : W.heap.size ≤ base) : OwnH (more W' g) base v l := by
  obtain ⟨h1, h2⟩ := h
  refine ⟨h1, ?_⟩
  rcases h2 with h2 | ⟨g', cap, cur, hv, hg, hh, r⟩
  · exact .inl h2
  · refine .inr ⟨g', cap, cur, hv, hg, ?_, r⟩
    rw [← hh]
    simp only [more]
    rw [Array.getElem?_append_right (by omega), Array.getElem?_append_right (by omega), hs]
theorem take_snoc' {α : Type} {l : List α} {k : Nat} {x : α} (h : l[k]? = some x) : l.take (k + 1) = l.take k ++ [x] := by
  rw [List.take_add_one, h]; rfl

set_option maxRecDepth 10000 in
set_option maxHeartbeats 1000000 in
theorem canonical_in (x : Qt) (h : ∀ u ∈ unitsL, (x.mul u).InR) (w : World) :
    Calls Tryd.prog 53 #[.agg #[.int .i64 x.w, .int .i64 x.x, .int .i64 x.y, .int .i64 x.z]] w fun e w' => e = .returned (.agg #[.int .i64 (canon x).w, .int .i64 (canon x).x, .int .i64 (canon x).y, .int .i64 (canon x).z]) ∧ Below w.heap.size w w' := by
  go_enter Tryd.func53, Tryd.ntmps53
  go_wp2_with (first | (go_at_call 76; refine (units_any _).mono ?_; rintro e w1 ⟨g, cap, rfl, hg, hown, hb1⟩; obtain ⟨g1, rfl⟩ := more_of_below hb1))
  simp only [World.size_alloc] at hg hown
  go_loopw [10] (fun i wr => ∃ k : Nat, k ≤ 24 ∧ i = .int .i64 k ∧ (∃ gg, wr = more (((w.alloc (.cells #[.int .i64 x.w, .int .i64 x.x, .int .i64 x.y, .int .i64 x.z] 80)).alloc (.cells #[.int .i64 0, .int .i64 0, .int .i64 0, .int .i64 0] 80)).alloc (.cells #[.int .i64 (((unitsL.take k).foldl (canStep x) x).w), .int .i64 (((unitsL.take k).foldl (canStep x) x).x), .int .i64 (((unitsL.take k).foldl (canStep x) x).y), .int .i64 (((unitsL.take k).foldl (canStep x) x).z)] 80)) gg) ∧ OwnH wr (w.heap.size + 1 + 1 + 1) (.slice (some ⟨g, 0, none⟩) 24 cap) unitsL) (fun i _ => 24 - (intOf i).toNat)
  case atStart => exact ⟨0, by omega, rfl, ⟨g1, rfl⟩, hown⟩
  case round =>
    clear hown
    obtain ⟨k, hk, rfl, ⟨gg, rfl⟩, hown⟩ := hrel
    generalize hb : (unitsL.take k).foldl (canStep x) x = b at *
    have HB := Lib.hid hb
    clear hb
    by_cases hk24 : k < 24
    · obtain ⟨u, hu⟩ : ∃ u, unitsL[k]? = some u := ⟨unitsL[k]'(by rw [unitsL_length]; exact hk24), List.getElem?_eq_getElem _⟩
      have hxu := h u (List.mem_of_getElem? hu)
      obtain ⟨e0, e1, e2, e3⟩ := hown.at_ hu
      have HU := Lib.hid hu
      clear hu
      have HO := Lib.hid hown
      clear hown
      go_wp2_with (first | (go_at_call 61; with_reducible refine (htimes_in x u hxu _).mono ?_; rintro e w2 ⟨rfl, hb2⟩; obtain ⟨g2, rfl⟩ := more_of_below hb2; clear hb2) | (go_at_call 22; with_reducible refine (compare_any _ _ _).mono ?_; rintro e w3 ⟨rfl, hb3⟩; obtain ⟨g3, rfl⟩ := more_of_below hb3; clear hb3))
      all_goals
        have hs : (unitsL.take (k + 1)).foldl (canStep x) x = canStep x b u := by rw [take_snoc' HU.out, canFold_snoc, HB.out]
        go_roundw
      case rel =>
        rw [show canStep x b u = (x.mul u).over 2 from if_pos ‹_›] at hs
        exact ⟨k + 1, by omega, by go_num, by rw [hs]; exact more_of_below (by (repeat (first | with_reducible assumption | with_reducible exact Below.refl _ _ | with_reducible refine Below.drewN ?_ _ | with_reducible refine Below.drew ?_ | with_reducible refine Below.alloc ?_ (by first | omega | (simp; done) | (simp; omega)) _ | with_reducible refine Below.setCell ?_ (by first | omega | (simp; done) | (simp; omega)) _ | with_reducible refine below_more _ _ ?_ (by first | omega | (simp; done) | (simp; omega))))), ((((ownH_swap HO.out (by simp) (by simp)).alloc _).mor _).alloc _).mor _⟩
      case measure => simp [intOf]; omega
      case rel =>
        rw [show canStep x b u = b from if_neg (Int.not_lt.2 ‹_›)] at hs
        exact ⟨k + 1, by omega, by go_num, by rw [hs]; exact more_of_below (by (repeat (first | with_reducible assumption | with_reducible exact Below.refl _ _ | with_reducible refine Below.drewN ?_ _ | with_reducible refine Below.drew ?_ | with_reducible refine Below.alloc ?_ (by first | omega | (simp; done) | (simp; omega)) _ | with_reducible refine Below.setCell ?_ (by first | omega | (simp; done) | (simp; omega)) _ | with_reducible refine below_more _ _ ?_ (by first | omega | (simp; done) | (simp; omega))))), (((HO.out.alloc _).mor _).alloc _).mor _⟩
      case measure => simp [intOf]; omega
    · obtain rfl : k = 24 := by omega
      have hc : canon x = b := by rw [← HB.out, List.take_of_length_le (by rw [unitsL_length]; omega)]; rfl
      go_wp2
      refine bodyPost_ret (v := .agg #[.int .i64 (canon x).w, .int .i64 (canon x).x, .int .i64 (canon x).y, .int .i64 (canon x).z]) (by rw [hc]; simp [results, Tryd.results53, go_sem]) rfl ⟨rfl, by (repeat (first | with_reducible assumption | with_reducible exact Below.refl _ _ | with_reducible refine Below.drewN ?_ _ | with_reducible refine Below.drew ?_ | with_reducible refine Below.alloc ?_ (by first | omega | (simp; done) | (simp; omega)) _ | with_reducible refine Below.setCell ?_ (by first | omega | (simp; done) | (simp; omega)) _ | with_reducible refine below_more _ _ ?_ (by first | omega | (simp; done) | (simp; omega))))⟩

end Go.Proofs.YthajaabgcbjfkaaDoor

namespace Go.Proofs.YthajaabgcbjfkaaDoor
open Go.RowKit

theorem unitsL_all : (unA ++ unB).all (fun u => decide (u.nrm = 4) && decide ((u.x - u.w) % 2 = 0 ∧ (u.y - u.w) % 2 = 0 ∧ (u.z - u.w) % 2 = 0)) = true := by decide
theorem unitsL_spec {u : Qt} (h : u ∈ unitsL) : u.nrm = 4 ∧ Qt.Hz u := by
  have := List.all_eq_true.1 unitsL_all u (List.mem_mergeSort.1 h)
  simp only [Bool.and_eq_true, decide_eq_true_eq] at this
  exact ⟨this.1, (Qt.hz_iff u).2 this.2⟩
theorem canonical_hz (x : Qt) (b : x.nrm ≤ 4000000000000) (w : World) :
    Calls Tryd.prog 53 #[.agg #[.int .i64 x.w, .int .i64 x.x, .int .i64 x.y, .int .i64 x.z]] w fun e w' => e = .returned (.agg #[.int .i64 (canon x).w, .int .i64 (canon x).x, .int .i64 (canon x).y, .int .i64 (canon x).z]) ∧ Below w.heap.size w w' :=
  canonical_in x (fun u hu => Qt.inR_of_nrm (by rw [Qt.nrm_mul, (unitsL_spec hu).1]; omega)) w

/-- The common divisor, by remainders; the first number bounds the rounds. -/
def gcdF : Nat → Qt → Qt → Qt
  | 0, x, _ => x
  | n + 1, x, y => if y.eqb ⟨0, 0, 0, 0⟩ then x else gcdF n y (x.dr y)
theorem nrm_pos_of {y : Qt} (h : y.eqb ⟨0, 0, 0, 0⟩ = false) : 1 ≤ y.nrm := by
  have h0 := y.nrm_nonneg
  apply Int.not_lt.1
  intro hc
  obtain ⟨h1, h2, h3, h4⟩ := Qt.bd_of_nrm (a := y) (B := 0) (by omega) (by omega)
  have : y = ⟨0, 0, 0, 0⟩ := Qt.ext' (by simp only; omega) (by simp only; omega) (by simp only; omega) (by simp only; omega)
  rw [this] at h; exact absurd h (by decide)
theorem gcdF_zero (n : Nat) (x y : Qt) (h : y.eqb ⟨0, 0, 0, 0⟩ = true) : gcdF n x y = x := by
  cases n with
  | zero => rfl
  | succ n => exact if_pos h
/-- The state of the loop that Gcd is. -/
structure Gs (x0 y0 : Qt) (k : Nat) (x y : Qt) : Prop where
  hx : Qt.Hz x
  hy : Qt.Hz y
  bx : x.nrm ≤ 4000000000000
  by_ : y.nrm ≤ 4000000000000
  hk : y.nrm.toNat ≤ k
  he : gcdF k x y = gcdF y0.nrm.toNat x0 y0
theorem Gs.step {x0 y0 : Qt} {k : Nat} {x y : Qt} (h : Gs x0 y0 k x y) (hz : y.eqb ⟨0, 0, 0, 0⟩ = false) : ∃ k', k' < k ∧ Gs x0 y0 k' y (x.dr y) := by
  have hp := nrm_pos_of hz
  have hd := Qt.dr_nrm h.hx h.hy hp
  have hn := (x.dr y).nrm_nonneg
  have hk := h.hk
  have hb := h.by_
  cases k with
  | zero => omega
  | succ k =>
    refine ⟨k, by omega, h.hy, Qt.hz_dr h.hx h.hy, h.by_, by omega, by omega, ?_⟩
    rw [← h.he]
    exact (if_neg (by rw [hz]; decide)).symm

end Go.Proofs.YthajaabgcbjfkaaDoor
