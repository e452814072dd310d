/- Contract: the units. -/
import Derived.Test.YthajaabgcbjfkaaS2
namespace Go.Proofs.Ythajaabgcbjfkaa
open Go.RowKit

theorem hurInfo : (Try.prog.info? 96).map (fun i => (i.zero, i.size, i.bytes)) = some (some (.agg #[.int .i64 0, .int .i64 0, .int .i64 0, .int .i64 0]), 4, 32) := by kernel_rfl

/-- The slice v of the call's own holds the Hurwitz quaternions l. -/
def OwnH (w : World) (base : Nat) (v : Value) (l : List Qt) : Prop := w.ownsRow base 96 4 v l.length (flatQ l)
theorem OwnH.nil (w : World) (base : Nat) : OwnH w base (.slice none 0 0) [] := ⟨by simp [flatQ], .inl ⟨rfl, rfl⟩⟩
theorem OwnH.alloc {w : World} {base : Nat} {v : Value} {l : List Qt} (h : OwnH w base v l) (o : Obj) : OwnH (w.alloc o) base v l := World.ownsRow.alloc h o
theorem OwnH.slice {w : World} {base : Nat} {v : Value} {l : List Qt} (h : OwnH w base v l) (hl : l ≠ []) : ∃ g cap, v = .slice (some ⟨g, 0, none⟩) l.length cap ∧ base ≤ g ∧ g < w.heap.size ∧ w.ownsRow base 96 4 (.slice (some ⟨g, 0, none⟩) l.length cap) l.length (flatQ l) := by
  have h' := h
  rcases h.2 with ⟨_, h0⟩ | ⟨g, cap, cur, rfl, hg, hh, _⟩
  · exact absurd (List.eq_nil_of_length_eq_zero h0) hl
  · exact ⟨g, cap, rfl, hg, (Array.getElem?_eq_some_iff.1 hh).1, h'⟩

/-- append of one Hurwitz quaternion that lies in the newest block. -/
theorem append_hur {w0 w : World} {base : Nat} {v : Value} {l : List Qt} (hown : OwnH w base v l) (hB : Below base w0 w) (hbase : base ≤ w.heap.size) (q : Qt) (hlen : l.length < 1000000)
    {ops : Array Oper} {rest : List Oper} {o : Oper} {a : Act} {Q : Exit → Act → World → Prop} (hgd : o.guard = none) (s x : Operand)
    (ho : o.op = .call { callee := .builtin .append, args := #[s, x], argTypes := #[91, 91] })
    (hs : a.eval s = v) {m : Nat} (hx : a.eval x = .slice (some ⟨m, 0, none⟩) 1 1) (hm : m = w.heap.size)
    (h : ∀ v' w', OwnH w' base v' (l ++ [q]) → Below base w0 w' → base ≤ w'.heap.size → wpList Try.prog ops Q rest (a.put o.dst v') w') : wpList Try.prog ops Q (o :: rest) a (w.alloc (.cells #[.int .i64 q.w, .int .i64 q.x, .int .i64 q.y, .int .i64 q.z] 96)) := by
  subst hm
  obtain ⟨i0, hi0, hz0, hz1, hz2⟩ := info_parts hurInfo
  refine wpList_append_own _ hgd s x 91 ho base 96 i0 _ 4 32 Try.underlying91 hi0 hz0 hz1 hz2 rfl (by omega) v l.length (flatQ l) hs (hown.alloc _)
    ⟨w.heap.size, 0, none⟩ 1 1 (encQ q) hx rfl ?_ (encQ_one q) (by simp only [maxLen]; omega) (by omega) (by simp; omega) ?_
  · intro j u hu
    have : (⟨w.heap.size, 0, none⟩ : Addr).add j = ⟨w.heap.size, j, none⟩ := by unfold Addr.add; split <;> simp_all
    rw [this, cell_of_row _ _ _ _ _ _ (heap_alloc_new w _)]
    simpa [encQ] using hu
  · intro v' w' h1 h2 _
    have hsz : w.heap.size ≤ w'.heap.size := Nat.le_trans (by simp) h2.size
    refine h v' w' (by unfold OwnH; rw [flatQ_append]; simpa [flatQ] using h1) ((hB.alloc hbase _).grown h2 (by simp; omega) ?_) (by omega)
    intro k hk
    exact (hown.lt k hk).1
end Go.Proofs.Ythajaabgcbjfkaa
