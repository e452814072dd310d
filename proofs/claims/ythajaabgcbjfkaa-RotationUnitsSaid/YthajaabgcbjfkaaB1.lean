/- The reference's list of all Hurwitz quaternions of a norm: slices that the call owns; contract of all. -/
import Derived.Test.YthajaabgcbjfkaaN5
import Derived.Test.YthajaabgcbjfkaaR2
import Derived.Test.YthajaabgcbjfkaaV1
namespace Go.Proofs.Ythajaabgcbjfkaa
open Go.RowKit

theorem rhurInfo : (Try.prog.info? 32).map (fun i => (i.zero, i.size, i.bytes)) = some (some (.agg #[.int .i64 0, .int .i64 0, .int .i64 0, .int .i64 0]), 4, 32) := by kernel_rfl
/-- The slice v of the call's own holds the quaternions l. -/
def OwnR (w : World) (base : Nat) (v : Value) (l : List Qt) : Prop := w.ownsRow base 32 4 v l.length (flatQ l)
theorem OwnR.nil (w : World) (base : Nat) : OwnR w base (.slice none 0 0) [] := ⟨by simp [flatQ], .inl ⟨rfl, rfl⟩⟩
theorem OwnR.alloc {w : World} {base : Nat} {v : Value} {l : List Qt} (h : OwnR w base v l) (o : Obj) : OwnR (w.alloc o) base v l := World.ownsRow.alloc h o
theorem OwnR.mor {W : World} {base : Nat} {v : Value} {l : List Qt} (h : OwnR W base v l) (g : Nat × Array Obj) : OwnR (more W g) base v l := by
  obtain ⟨h1, h2⟩ := h
  refine ⟨h1, ?_⟩
  rcases h2 with h2 | ⟨g', cap, cur, hv, hg, hh, r⟩
  · exact .inl h2
  · exact .inr ⟨g', cap, cur, hv, hg, by rw [heap_more W g (Array.getElem?_eq_some_iff.1 hh).1]; exact hh, r⟩
theorem OwnR.rd {W : World} {base : Nat} {v : Value} {l : List Qt} (h : OwnR W base v l) : (v = .slice none 0 0 ∧ l = []) ∨ ∃ g cap, v = .slice (some ⟨g, 0, none⟩) l.length cap ∧ base ≤ g ∧ g < W.heap.size ∧ ∀ k q, l[k]? = some q → H4 W g k q := by
  obtain ⟨_, h2⟩ := h
  rcases h2 with ⟨h2, h3⟩ | ⟨g', cap', cur, hv, hg, hh, hn, hcap, hsz, htk⟩
  · exact .inl ⟨h2, List.eq_nil_of_length_eq_zero h3⟩
  · refine .inr ⟨g', cap', hv, hg, (Array.getElem?_eq_some_iff.1 hh).1, fun k q hq => ?_⟩
    have hk : k < l.length := (List.getElem?_eq_some_iff.1 hq).1
    have key : ∀ j v, j < 4 → (encQ q)[j]? = some v → W.cell? ⟨g', k * 4 + j, none⟩ = some v := fun j v hj hv => by
      rw [cell_of_row W g' _ cur _ (0, 0) hh]
      have h1 := flatQ_get l k q hq j hj
      rw [hv, ← htk, List.getElem?_take_of_lt (by omega), Array.getElem?_toList] at h1
      exact h1
    exact ⟨key 0 _ (by omega) rfl, key 1 _ (by omega) rfl, key 2 _ (by omega) rfl, key 3 _ (by omega) rfl⟩
theorem append_rhur {w0 w : World} {base : Nat} {v : Value} {l : List Qt} (hown : OwnR w base v l) (hB : Below base w0 w) (hbase : base ≤ w.heap.size) (q : Qt) (hlen : l.length < 1000000)
    {ops : Array Oper} {rest : List Oper} {o : Oper} {a : Act} {Q : Exit → Act → World → Prop} (hgd : o.guard = none) (s x : Operand)
    (ho : o.op = .call { callee := .builtin .append, args := #[s, x], argTypes := #[47, 47] })
    (hs : a.eval s = v) {m : Nat} (hx : a.eval x = .slice (some ⟨m, 0, none⟩) 1 1) (hm : m = w.heap.size)
    (h : ∀ v' w', OwnR w' base v' (l ++ [q]) → Below base w0 w' → base ≤ w'.heap.size → wpList Try.prog ops Q rest (a.put o.dst v') w') : wpList Try.prog ops Q (o :: rest) a (w.alloc (.cells #[.int .i64 q.w, .int .i64 q.x, .int .i64 q.y, .int .i64 q.z] 32)) := by
  subst hm
  obtain ⟨i0, hi0, hz0, hz1, hz2⟩ := info_parts rhurInfo
  refine wpList_append_own _ hgd s x 47 ho base 32 i0 _ 4 32 Try.underlying47 hi0 hz0 hz1 hz2 rfl (by omega) v l.length (flatQ l) hs (hown.alloc _)
    ⟨w.heap.size, 0, none⟩ 1 1 (encQ q) hx rfl ?_ (encQ_one q) (by simp only [maxLen]; omega) (by omega) (by simp; omega) ?_
  · intro j u hu
    have : (⟨w.heap.size, 0, none⟩ : Addr).add j = ⟨w.heap.size, j, none⟩ := by unfold Addr.add; split <;> simp_all
    rw [this, cell_of_row _ _ _ _ _ _ (heap_alloc_new w _)]
    simpa [encQ] using hu
  · intro v' w' h1 h2 _
    have hsz : w.heap.size ≤ w'.heap.size := Nat.le_trans (by simp) h2.size
    refine h v' w' (by unfold OwnR; rw [flatQ_append]; simpa [flatQ] using h1) ((hB.alloc hbase _).grown h2 (by simp; omega) ?_) (by omega)
    intro k hk
    exact (hown.lt k hk).1

def cellA (n : Nat) (w x y z : Int) : List Qt := if w * w + x * x + y * y + z * z = 4 * n ∧ (w - x) % 2 = 0 ∧ (w - y) % 2 = 0 ∧ (w - z) % 2 = 0 then [⟨w, x, y, z⟩] else []
theorem allZ_snoc (n b : Nat) (w x y : Int) (k : Nat) : allZ n b w x y (k + 1) = allZ n b w x y k ++ cellA n w x y ((b : Int) - k) := by
  unfold allZ; rw [List.range_succ, List.flatMap_append]; simp [cellA]
theorem allY_snoc (n b : Nat) (w x : Int) (k : Nat) : allY n b w x (k + 1) = allY n b w x k ++ allZ n b w x ((b : Int) - k) (2 * b + 1) := by
  unfold allY; rw [List.range_succ, List.flatMap_append]; simp
theorem allX_snoc (n b : Nat) (w : Int) (k : Nat) : allX n b w (k + 1) = allX n b w k ++ allY n b w ((b : Int) - k) (2 * b + 1) := by
  unfold allX; rw [List.range_succ, List.flatMap_append]; simp
theorem allW_snoc (n b k : Nat) : allW n b (k + 1) = allW n b k ++ allX n b ((b : Int) - k) (2 * b + 1) := by
  unfold allW; rw [List.range_succ, List.flatMap_append]; simp
theorem allZ_len (n b : Nat) (w x y : Int) (k : Nat) : (allZ n b w x y k).length ≤ k * 1 := length_flat fun i _ => by split <;> simp
theorem allY_len (n b : Nat) (w x : Int) (k : Nat) : (allY n b w x k).length ≤ k * ((2 * b + 1) * 1) := length_flat fun _ _ => allZ_len _ _ _ _ _ _
theorem allX_len (n b : Nat) (w : Int) (k : Nat) : (allX n b w k).length ≤ k * ((2 * b + 1) * ((2 * b + 1) * 1)) := length_flat fun _ _ => allY_len _ _ _ _ _
theorem allW_len (n b k : Nat) : (allW n b k).length ≤ k * ((2 * b + 1) * ((2 * b + 1) * ((2 * b + 1) * 1))) := length_flat fun _ _ => allX_len _ _ _ _

def RInv (B : Nat) (w0 : World) (v : Value) (l : List Qt) (w : World) : Prop := OwnR w B v l ∧ Below B w0 w ∧ B ≤ w.heap.size
theorem RInv.alloc {B : Nat} {w0 : World} {v : Value} {l : List Qt} {w : World} (h : RInv B w0 v l w) (o : Obj) : RInv B w0 v l (w.alloc o) :=
  ⟨h.1.alloc o, h.2.1.alloc h.2.2 o, by have := h.2.2; simp; omega⟩
end Go.Proofs.Ythajaabgcbjfkaa
