/- Slices of integers: what the call owns, what it reads; append of one number. -/
import Derived.Test.YthajaabgcbjfkaaO1
import Derived.ChangeSlices
namespace Go.Proofs.Ythajaabgcbjfkaa
open Go.RowKit

/-- From the address a on lie the numbers l. -/
def ZAt (w : World) (a : Addr) (l : List Int) : Prop := ∀ (k : Nat) (x : Int), l[k]? = some x → w.cell? (a.add k) = some (.int .i64 x)
theorem ZAt.below {B : Nat} {w w' : World} {a : Addr} {l : List Int} (h : ZAt w a l) (hb : Below B w w') (hB : w.heap.size ≤ B) : ZAt w' a l := fun k x hx => by
  have h1 := h k x hx
  have h2 := World.block_lt_of_cell? w _ h1
  rw [hb.cell (by omega)]; exact h1
theorem ZAt.mor {W : World} {a : Addr} {l : List Int} (h : ZAt W a l) (g : Nat × Array Obj) : ZAt (more W g) a l :=
  h.below (below_more W g (Below.refl _ _) (Nat.le_refl _)) (Nat.le_refl _)
theorem ZAt.plain {w : World} {b off : Nat} {l : List Int} : ZAt w ⟨b, off, none⟩ l ↔ ∀ (k : Nat) (x : Int), l[k]? = some x → w.cell? ⟨b, off + k, none⟩ = some (.int .i64 x) := by
  have e : ∀ k, (⟨b, off, none⟩ : Addr).add k = ⟨b, off + k, none⟩ := fun k => by
    unfold Addr.add; split
    · next h => rw [h]; rfl
    · rfl
  unfold ZAt; simp only [e]
/-- The slice v reads as the numbers l. -/
def RdZ (w : World) (v : Value) (l : List Int) : Prop := (v = .slice none 0 0 ∧ l = []) ∨ ∃ a cap, v = .slice (some a) l.length cap ∧ ZAt w a l
theorem RdZ.below {B : Nat} {w w' : World} {v : Value} {l : List Int} (h : RdZ w v l) (hb : Below B w w') (hB : w.heap.size ≤ B) : RdZ w' v l := by
  rcases h with h | ⟨a, cap, e, h⟩
  · exact .inl h
  · exact .inr ⟨a, cap, e, h.below hb hB⟩
theorem RdZ.mor {W : World} {v : Value} {l : List Int} (h : RdZ W v l) (g : Nat × Array Obj) : RdZ (more W g) v l :=
  h.below (below_more W g (Below.refl _ _) (Nat.le_refl _)) (Nat.le_refl _)
theorem RdZ.len {w : World} {v : Value} {l : List Int} (h : RdZ w v l) : ∃ a cap, v = .slice a l.length cap := by
  rcases h with ⟨rfl, rfl⟩ | ⟨a, cap, e, _⟩
  · exact ⟨_, _, rfl⟩
  · exact ⟨_, _, e⟩
theorem RdZ.row {w : World} {v : Value} {l : List Int} (h : RdZ w v l) (hl : 0 < l.length) : ∃ a cap, v = .slice (some a) l.length cap ∧ ZAt w a l := by
  rcases h with ⟨rfl, rfl⟩ | h
  · simp at hl
  · exact h
theorem intInfo : (Try.prog.info? 3).map (fun i => (i.zero, i.size, i.bytes)) = some (some (.int .i64 0), 1, 8) := by kernel_rfl
def flatZ (l : List Int) : List Value := l.map fun x => .int .i64 x
theorem encZ_one : ∀ x : Int, ∀ v ∈ [(.int .i64 x : Value)], v.oneCell' = true := fun x v hv => by
  simp only [List.mem_cons, List.not_mem_nil, or_false] at hv
  subst hv; rfl
/-- The slice v of the call's own holds the numbers l. -/
def OwnZ (w : World) (base : Nat) (v : Value) (l : List Int) : Prop := w.ownsRow base 3 1 v l.length (flatZ l)
theorem OwnZ.nil (w : World) (base : Nat) : OwnZ w base (.slice none 0 0) [] := ⟨by simp [flatZ], .inl ⟨rfl, rfl⟩⟩
theorem OwnZ.alloc {w : World} {base : Nat} {v : Value} {l : List Int} (h : OwnZ w base v l) (o : Obj) : OwnZ (w.alloc o) base v l := World.ownsRow.alloc h o
theorem OwnZ.mor {W : World} {base : Nat} {v : Value} {l : List Int} (h : OwnZ W base v l) (g : Nat × Array Obj) : OwnZ (more W g) base v l := by
  obtain ⟨h1, h2⟩ := h
  refine ⟨h1, ?_⟩
  rcases h2 with h2 | ⟨g', cap, cur, hv, hg, hh, r⟩
  · exact .inl h2
  · exact .inr ⟨g', cap, cur, hv, hg, by rw [heap_more W g (Array.getElem?_eq_some_iff.1 hh).1]; exact hh, r⟩
theorem OwnZ.below {W W' : World} {base : Nat} {v : Value} {l : List Int} (h : OwnZ W base v l) (hb : Below W.heap.size W W') : OwnZ W' base v l := by
  obtain ⟨g, rfl⟩ := more_of_below hb
  exact h.mor g
theorem OwnZ.base {W : World} {b b' : Nat} {v : Value} {l : List Int} (h : OwnZ W b v l) (hb : b' ≤ b) : OwnZ W b' v l := by
  obtain ⟨h1, h2⟩ := h
  refine ⟨h1, ?_⟩
  rcases h2 with h2 | ⟨g', cap, cur, hv, hg, r⟩
  · exact .inl h2
  · exact .inr ⟨g', cap, cur, hv, Nat.le_trans hb hg, r⟩
theorem OwnZ.rd {W : World} {base : Nat} {v : Value} {l : List Int} (h : OwnZ W base v l) : RdZ W v l := by
  obtain ⟨_, h2⟩ := h
  rcases h2 with ⟨h2, h3⟩ | ⟨g, cap, cur, hv, hg, hh, hn, hcap, hsz, htk⟩
  · exact .inl ⟨h2, List.eq_nil_of_length_eq_zero h3⟩
  · refine .inr ⟨⟨g, 0, none⟩, cap, hv, ZAt.plain.2 fun k x hx => ?_⟩
    have hk : k < l.length := (List.getElem?_eq_some_iff.1 hx).1
    rw [Nat.zero_add, cell_of_row W g _ cur _ (0, 0) hh]
    have h1 : (flatZ l)[k]? = some (.int .i64 x) := by unfold flatZ; rw [List.getElem?_map, hx]; rfl
    rw [← htk, List.getElem?_take_of_lt (by omega), Array.getElem?_toList] at h1
    exact h1
/-- append of one number that lies in the newest block. -/
theorem append_z {w0 w : World} {base : Nat} {v : Value} {l : List Int} (hown : OwnZ w base v l) (hB : Below base w0 w) (hbase : base ≤ w.heap.size) (x : Int) (hlen : l.length < 1000000)
    {ops : Array Oper} {rest : List Oper} {o : Oper} {a : Act} {Q : Exit → Act → World → Prop} (hgd : o.guard = none) (s y : Operand)
    (ho : o.op = .call { callee := .builtin .append, args := #[s, y], argTypes := #[80, 80] })
    (hs : a.eval s = v) {m : Nat} (hx : a.eval y = .slice (some ⟨m, 0, none⟩) 1 1) (hm : m = w.heap.size)
    (h : ∀ v' w', OwnZ w' base v' (l ++ [x]) → Below base w0 w' → base ≤ w'.heap.size → wpList Try.prog ops Q rest (a.put o.dst v') w') : wpList Try.prog ops Q (o :: rest) a (w.alloc (.cells #[.int .i64 x] 3)) := by
  subst hm
  obtain ⟨i0, hi0, hz0, hz1, hz2⟩ := info_parts intInfo
  refine wpList_append_own _ hgd s y 80 ho base 3 i0 _ 1 8 Try.underlying80 hi0 hz0 hz1 hz2 rfl (by omega) v l.length (flatZ l) hs (hown.alloc _)
    ⟨w.heap.size, 0, none⟩ 1 1 [.int .i64 x] hx rfl ?_ (encZ_one x) (by simp only [maxLen]; omega) (by omega) (by simp; omega) ?_
  · intro j u hu
    have : (⟨w.heap.size, 0, none⟩ : Addr).add j = ⟨w.heap.size, j, none⟩ := by unfold Addr.add; split <;> simp_all
    rw [this, cell_of_row _ _ _ _ _ _ (heap_alloc_new w _)]
    simpa using hu
  · intro v' w' h1 h2 _
    have hsz : w.heap.size ≤ w'.heap.size := Nat.le_trans (by simp) h2.size
    refine h v' w' (by unfold OwnZ; simpa [flatZ] using h1) ((hB.alloc hbase _).grown h2 (by simp; omega) ?_) (by omega)
    intro k hk
    exact (hown.lt k hk).1
/-- Of a loop that appends. -/
def ZInv (B : Nat) (w0 : World) (v : Value) (l : List Int) (w : World) : Prop := OwnZ w B v l ∧ Below B w0 w ∧ B ≤ w.heap.size
end Go.Proofs.Ythajaabgcbjfkaa
