/- Slices of elements that the call owns; quats; comparing two such slices. -/
import Derived.Test.YthajaabgcbjfkaaO2
namespace Go.Proofs.Ythajaabgcbjfkaa
open Go.RowKit

def encD (q : Qd) : List Value := [.int .i64 q.w, .int .i64 q.x, .int .i64 q.y, .int .i64 q.z, .int .i64 q.d]
def flatD (l : List Qd) : List Value := l.flatMap encD
theorem flatD_length (l : List Qd) : (flatD l).length = l.length * 5 := by
  induction l with
  | nil => rfl
  | cons q l ih => simp only [flatD, List.flatMap_cons, List.length_append] at *; rw [ih]; simp [encD]; omega
theorem flatD_append (l m : List Qd) : flatD (l ++ m) = flatD l ++ flatD m := by simp [flatD]
theorem flatD_get (l : List Qd) (i : Nat) (q : Qd) (h : l[i]? = some q) (j : Nat) (hj : j < 5) : (flatD l)[i * 5 + j]? = (encD q)[j]? := by
  induction l generalizing i with
  | nil => simp at h
  | cons p l ih =>
    cases i with
    | zero =>
      simp only [List.getElem?_cons_zero, Option.some.injEq] at h
      subst h
      show (encD p ++ flatD l)[0 * 5 + j]? = _
      rw [Nat.zero_mul, Nat.zero_add, List.getElem?_append_left (by simp [encD]; omega)]
    | succ i =>
      show (encD p ++ flatD l)[(i + 1) * 5 + j]? = _
      rw [List.getElem?_append_right (by simp [encD]; omega)]
      have : (i + 1) * 5 + j - (encD p).length = i * 5 + j := by simp [encD]; omega
      rw [this]
      exact ih i (by simpa using h)
theorem encD_one : ∀ x, ∀ v ∈ encD x, v.oneCell' = true := fun x v hv => by
  simp only [encD, List.mem_cons, List.not_mem_nil, or_false] at hv
  rcases hv with rfl | rfl | rfl | rfl | rfl <;> rfl
theorem quatInfo : (Try.prog.info? 23).map (fun i => (i.zero, i.size, i.bytes)) = some (some (.agg #[.int .i64 0, .int .i64 0, .int .i64 0, .int .i64 0, .int .i64 0]), 5, 40) := by kernel_rfl

/-- The slice v of the call's own holds the elements l. -/
def OwnD (w : World) (base : Nat) (v : Value) (l : List Qd) : Prop := w.ownsRow base 23 5 v l.length (flatD l)
theorem OwnD.nil (w : World) (base : Nat) : OwnD w base (.slice none 0 0) [] := ⟨by simp [flatD], .inl ⟨rfl, rfl⟩⟩
theorem OwnD.alloc {w : World} {base : Nat} {v : Value} {l : List Qd} (h : OwnD w base v l) (o : Obj) : OwnD (w.alloc o) base v l := World.ownsRow.alloc h o
theorem OwnD.mor {W : World} {base : Nat} {v : Value} {l : List Qd} (h : OwnD W base v l) (g : Nat × Array Obj) : OwnD (more W g) base v l := by
  obtain ⟨h1, h2⟩ := h
  refine ⟨h1, ?_⟩
  rcases h2 with h2 | ⟨g', cap, cur, hv, hg, hh, r⟩
  · exact .inl h2
  · exact .inr ⟨g', cap, cur, hv, hg, by rw [heap_more W g (Array.getElem?_eq_some_iff.1 hh).1]; exact hh, r⟩
theorem OwnD.drew {W : World} {base : Nat} {v : Value} {l : List Qd} (h : OwnD W base v l) : OwnD W.drew base v l := h
theorem OwnD.below {W W' : World} {base : Nat} {v : Value} {l : List Qd} (h : OwnD W base v l) (hb : Below W.heap.size W W') : OwnD W' base v l := by
  obtain ⟨g, rfl⟩ := more_of_below hb
  exact h.mor g
/-- What the slice is: nil, or a row in a block of its own. -/
theorem OwnD.form {W : World} {base : Nat} {v : Value} {l : List Qd} (h : OwnD W base v l) : (v = .slice none 0 0 ∧ l = []) ∨ ∃ g cap, v = .slice (some ⟨g, 0, none⟩) l.length cap ∧ base ≤ g ∧ g < W.heap.size ∧ ∀ k q, l[k]? = some q → Q5 W g k q := by
  obtain ⟨_, h2⟩ := h
  rcases h2 with ⟨h2, h3⟩ | ⟨g, cap, cur, hv, hg, hh, hn, hcap, hsz, htk⟩
  · exact .inl ⟨h2, List.eq_nil_of_length_eq_zero h3⟩
  · refine .inr ⟨g, cap, hv, hg, (Array.getElem?_eq_some_iff.1 hh).1, fun k q hq => ?_⟩
    have hk : k < l.length := (List.getElem?_eq_some_iff.1 hq).1
    have key : ∀ j v, j < 5 → (encD q)[j]? = some v → W.cell? ⟨g, k * 5 + j, none⟩ = some v := fun j v hj hv => by
      rw [cell_of_row W g _ cur _ (0, 0) hh]
      have h1 := flatD_get l k q hq j hj
      rw [hv, ← htk, List.getElem?_take_of_lt (by omega), Array.getElem?_toList] at h1
      exact h1
    exact ⟨key 0 _ (by omega) rfl, key 1 _ (by omega) rfl, key 2 _ (by omega) rfl, key 3 _ (by omega) rfl, key 4 _ (by omega) rfl⟩
theorem OwnD.len {W : World} {base : Nat} {v : Value} {l : List Qd} (h : OwnD W base v l) : ∃ a cap, v = .slice a l.length cap := by
  rcases h.form with ⟨rfl, rfl⟩ | ⟨g, cap, rfl, _⟩
  · exact ⟨_, _, rfl⟩
  · exact ⟨_, _, rfl⟩

/-- append of one element that lies in the newest block. -/
theorem append_quat {w0 w : World} {base : Nat} {v : Value} {l : List Qd} (hown : OwnD w base v l) (hB : Below base w0 w) (hbase : base ≤ w.heap.size) (q : Qd) (hlen : l.length < 1000000)
    {ops : Array Oper} {rest : List Oper} {o : Oper} {a : Act} {Q : Exit → Act → World → Prop} (hgd : o.guard = none) (s x : Operand)
    (ho : o.op = .call { callee := .builtin .append, args := #[s, x], argTypes := #[41, 41] })
    (hs : a.eval s = v) {m : Nat} (hx : a.eval x = .slice (some ⟨m, 0, none⟩) 1 1) (hm : m = w.heap.size)
    (h : ∀ v' w', OwnD w' base v' (l ++ [q]) → Below base w0 w' → base ≤ w'.heap.size → wpList Try.prog ops Q rest (a.put o.dst v') w') : wpList Try.prog ops Q (o :: rest) a (w.alloc (.cells #[.int .i64 q.w, .int .i64 q.x, .int .i64 q.y, .int .i64 q.z, .int .i64 q.d] 23)) := by
  subst hm
  obtain ⟨i0, hi0, hz0, hz1, hz2⟩ := info_parts quatInfo
  refine wpList_append_own _ hgd s x 41 ho base 23 i0 _ 5 40 Try.underlying41 hi0 hz0 hz1 hz2 rfl (by omega) v l.length (flatD l) hs (hown.alloc _)
    ⟨w.heap.size, 0, none⟩ 1 1 (encD q) hx rfl ?_ (encD_one q) (by simp only [maxLen]; omega) (by omega) (by simp; omega) ?_
  · intro j u hu
    have : (⟨w.heap.size, 0, none⟩ : Addr).add j = ⟨w.heap.size, j, none⟩ := by unfold Addr.add; split <;> simp_all
    rw [this, cell_of_row _ _ _ _ _ _ (heap_alloc_new w _)]
    simpa [encD] using hu
  · intro v' w' h1 h2 _
    have hsz : w.heap.size ≤ w'.heap.size := Nat.le_trans (by simp) h2.size
    refine h v' w' (by unfold OwnD; rw [flatD_append]; simpa [flatD] using h1) ((hB.alloc hbase _).grown h2 (by simp; omega) ?_) (by omega)
    intro k hk
    exact (hown.lt k hk).1
/-- The elements of Hurwitz quaternions. -/
def DInv (B : Nat) (w0 : World) (v : Value) (l : List Qd) (w : World) : Prop := OwnD w B v l ∧ Below B w0 w ∧ B ≤ w.heap.size
end Go.Proofs.Ythajaabgcbjfkaa
