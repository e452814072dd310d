/- Contract: slices.Compact at a pair; append that leaves other rows alone. -/
import Derived.Test.YthajaabgcbjfkaaN2
import Derived.Test.YthajaabgcbjfkaaV1
namespace Go.Proofs.Ythajaabgcbjfkaa
open Go.RowKit Go.Sort Go.Shelf Go.Lib

@[go_sem] theorem eqJ_quad (a0 a1 a2 a3 b0 b1 b2 b3 : Int) (w : World) : (Op.equalIn 9999 94 (.agg #[.int .i64 a0, .int .i64 a1, .int .i64 a2, .int .i64 a3]) (.agg #[.int .i64 b0, .int .i64 b1, .int .i64 b2, .int .i64 b3])).run Try.prog w = .ok (Qt.eqb ⟨a0, a1, a2, a3⟩ ⟨b0, b1, b2, b3⟩) w := eqIn_quad 9997 ⟨a0, a1, a2, a3⟩ ⟨b0, b1, b2, b3⟩ w
/-- What is left of -z, z. -/
def pairZ (z : Nat) : List Int := if z = 0 then [0] else [-(z : Int), (z : Int)]
def cellsZ (z : Nat) : Array Value := if z = 0 then #[.int .i64 0, .int .i64 0] else #[.int .i64 (-(z : Int)), .int .i64 ((z : Int))]
theorem compact_pair (z : Nat) : Lib.compact [-(z : Int), (z : Int)] = pairZ z ∧ (Lib.compact [-(z : Int), (z : Int)] ++ List.replicate (2 - (Lib.compact [-(z : Int), (z : Int)]).length) 0).map (Value.int .i64) = (cellsZ z).toList := by
  by_cases h : z = 0
  · subst h; exact ⟨by decide, rfl⟩
  · have h1 : (z : Int) ≠ -(z : Int) := by omega
    have e : Lib.compact [-(z : Int), (z : Int)] = [-(z : Int), (z : Int)] := by
      simp [Lib.compact, compactUpTo, keeps, List.range_succ, h1]
    rw [e]
    simp [pairZ, cellsZ, h]
theorem heap_putRow (w : World) (q blk : Nat) (cs : Array Value) (t : TypeId) (d : Array Int) (h : w.heap[blk]? = some (.cells cs t (0, 0))) (hs : cs.size = d.size) :
    (putRow (Value.int .i64) (Sort.ahead w q) blk 0 d).heap[blk]? = some (.cells (d.map (Value.int .i64)) t (0, 0)) := by
  have hb : blk < w.heap.size := (Array.getElem?_eq_some_iff.1 h).1
  have e : (putRow (Value.int .i64) (Sort.ahead w q) blk 0 d).heap[blk]? = some (.cells (putCells (Value.int .i64) 0 d cs) t (0, 0)) := by
    simp [putRow, mapBlock, Sort.ahead, Array.getElem?_modify, h, onCells]
  rw [e]
  congr 2
  apply Array.ext
  · simp [putCells, hs]
  · intro i h1 h2
    simp only [putCells, Array.getElem_mapIdx, Nat.zero_le, Nat.zero_add, true_and, Nat.sub_zero, Array.getElem_map]
    have hi : i < d.size := by simpa using h2
    rw [if_pos hi, getElem!_pos d i hi]
theorem compact2_any (z : Nat) (W : World) {m : Nat} (hm : m = W.heap.size) :
    Calls Try.prog 115 #[.slice (some ⟨m, 0, none⟩) 2 2] (W.alloc (.cells #[.int .i64 (-(z : Int)), .int .i64 ((z : Int))] 3)) fun e w' =>
      e = .returned (.slice (some ⟨m, 0, none⟩) (pairZ z).length 2) ∧ w'.heap[m]? = some (.cells (cellsZ z) 3 (0, 0)) ∧ Below W.heap.size W w' := by
  subst hm
  have hH : Holds (Value.int .i64) (W.alloc (.cells #[.int .i64 (-(z : Int)), .int .i64 ((z : Int))] 3)) W.heap.size 0 [-(z : Int), (z : Int)].toArray := by
    intro j hj
    have hj' : j < 2 := by simpa using hj
    rw [Nat.zero_add]
    refine ⟨?_, frozen_of_row _ _ _ _ _ (heap_alloc_new W _)⟩
    rw [cell_of_row _ _ _ _ _ _ (heap_alloc_new W _)]
    rcases two j hj' with rfl | rfl <;> rfl
  have h := Any.slices_Compact_int Try.laysNm220 W.heap.size 0 2 [-(z : Int), (z : Int)] _ hH (by simp) (by simp)
  refine h.mono ?_
  obtain ⟨c1, c2⟩ := compact_pair z
  rintro e w' ⟨rfl, q, rfl⟩
  refine ⟨by rw [c1], ?_, ?_⟩
  · have hsz : (Lib.compact [-(z : Int), (z : Int)] ++ List.replicate ([-(z : Int), (z : Int)].length - (Lib.compact [-(z : Int), (z : Int)]).length) 0).length = 2 := by
      have := congrArg List.length c2
      simp only [List.length_map, Array.length_toList] at this
      rw [show [-(z : Int), (z : Int)].length = 2 from rfl, this]
      unfold cellsZ; split <;> rfl
    rw [heap_putRow _ q _ _ _ _ (heap_alloc_new W _) (by simp only [List.size_toArray]; rw [hsz]; rfl)]
    congr 2
    apply Array.toList_inj.1
    rw [← c2]
    simp
  · refine ⟨rfl, rfl, rfl, by simp, fun k hk => ?_⟩
    have hk' : W.heap.size ≠ k := by omega
    simp only [putRow, mapBlock, Sort.ahead, World.alloc]
    rw [Array.getElem?_modify, if_neg hk', Array.getElem?_push_lt hk, Array.getElem?_eq_getElem hk]

/-- append of one Hurwitz quaternion; rows of another type stay as they are. -/
theorem append_hur3 {w0 w : World} {base : Nat} {v : Value} {l : List Qt} (hown : OwnH w base v l) (hB : Below base w0 w) (hbase : base ≤ w.heap.size) (q : Qt) (hlen : l.length < 1000000)
    {ops : Array Oper} {rest : List Oper} {o : Oper} {a : Act} {Q : Exit → Act → World → Prop} (hgd : o.guard = none) (s x : Operand)
    (ho : o.op = .call { callee := .builtin .append, args := #[s, x], argTypes := #[91, 91] })
    (hs : a.eval s = v) {m : Nat} (hx : a.eval x = .slice (some ⟨m, 0, none⟩) 1 1) (hm : m = w.heap.size)
    (h : ∀ v' w', OwnH w' base v' (l ++ [q]) → Below base w0 w' → base ≤ w'.heap.size → (∀ (k : Nat) (cs : Array Value) (t : TypeId) (f : Nat × Nat), t ≠ 96 → w.heap[k]? = some (Obj.cells cs t f) → w'.heap[k]? = some (Obj.cells cs t f)) → wpList Try.prog ops Q rest (a.put o.dst v') w') : wpList Try.prog ops Q (o :: rest) a (w.alloc (.cells #[.int .i64 q.w, .int .i64 q.x, .int .i64 q.y, .int .i64 q.z] 96)) := by
  subst hm
  obtain ⟨i0, hi0, hz0, hz1, hz2⟩ := info_parts hurInfo
  refine wpList_append_own _ hgd s x 91 ho base 96 i0 _ 4 32 Try.underlying91 hi0 hz0 hz1 hz2 rfl (by omega) v l.length (flatQ l) hs (hown.alloc _)
    ⟨w.heap.size, 0, none⟩ 1 1 (encQ q) hx rfl ?_ (encQ_one q) (by simp only [maxLen]; omega) (by omega) (by simp; omega) ?_
  · intro j u hu
    have : (⟨w.heap.size, 0, none⟩ : Addr).add j = ⟨w.heap.size, j, none⟩ := by unfold Addr.add; split <;> simp_all
    rw [this, cell_of_row _ _ _ _ _ _ (heap_alloc_new w _)]
    simpa [encQ] using hu
  · intro v' w' h1 h2 _
    have hsz : w.heap.size ≤ w'.heap.size := Nat.le_trans (by simp) h2.size
    refine h v' w' (by unfold OwnH; rw [flatQ_append]; simpa [flatQ] using h1) ((hB.alloc hbase _).grown h2 (by simp; omega) ?_) (by omega) ?_
    · intro k hk
      exact (hown.lt k hk).1
    · intro k cs t f ht hk
      have hkl : k < w.heap.size := (Array.getElem?_eq_some_iff.1 hk).1
      rw [h2.block k (by simp; omega) ?_]
      · simp only [World.alloc]; rw [Array.getElem?_push_lt hkl]; rw [← hk, Array.getElem?_eq_getElem hkl]
      · intro he
        rcases hown.2 with ⟨e, _⟩ | ⟨g', cap, cur, e, _, hh, _⟩
        · rw [e] at he; cases he
        · rw [e] at he
          have : k = g' := by simpa [Value.ownBlock] using he
          subst this
          rw [hh] at hk
          injection hk with hk; injection hk with _ hk
          exact ht hk.symm
end Go.Proofs.Ythajaabgcbjfkaa
