/- Contracts: CopyInts; a model's errors, of the program and of the reference. -/
import Derived.Test.YthajaabgcbjfkaaI1
import Derived.Test.YthajaabgcbjfkaaY2
import Derived.Test.YthajaabgcbjfkaaB6
namespace Go.Proofs.Ythajaabgcbjfkaa
open Go.RowKit
attribute [local go_sem ↓] Go.wp_at_zero Go.wp_at_succ

theorem OwnZ.empty (w : World) : OwnZ (w.alloc (.cells #[] 3)) w.heap.size (.slice (some ⟨w.heap.size, 0, none⟩) 0 0) [] :=
  ⟨by simp [flatZ], .inr ⟨w.heap.size, 0, #[], rfl, Nat.le_refl _, heap_alloc_new w _, Nat.le_refl _, by simp [maxLen], rfl, rfl⟩⟩
/-- append of a row of numbers. -/
theorem append_zs {w0 w : World} {base : Nat} {v : Value} {l : List Int} (hown : OwnZ w base v l) (hB : Below base w0 w) (hbase : base ≤ w.heap.size) (l2 : List Int) (ad : Addr) (n c : Nat) (hn : n = l2.length) (h2 : ZAt w ad l2) (hlen : l.length + l2.length < 1000000)
    {ops : Array Oper} {rest : List Oper} {o : Oper} {a : Act} {Q : Exit → Act → World → Prop} (hgd : o.guard = none) (s y : Operand)
    (ho : o.op = .call { callee := .builtin .append, args := #[s, y], argTypes := #[80, 80] })
    (hs : a.eval s = v) (hx : a.eval y = .slice (some ad) n c)
    (h : ∀ v' w', OwnZ w' base v' (l ++ l2) → Below base w0 w' → base ≤ w'.heap.size → wpList Try.prog ops Q rest (a.put o.dst v') w') : wpList Try.prog ops Q (o :: rest) a w := by
  subst hn
  obtain ⟨i0, hi0, hz0, hz1, hz2⟩ := info_parts intInfo
  refine wpList_append_own _ hgd s y 80 ho base 3 i0 _ 1 8 Try.underlying80 hi0 hz0 hz1 hz2 rfl (by omega) v l.length (flatZ l) hs hown
    ad l2.length c (flatZ l2) hx (by simp [flatZ]) ?_ ?_ (by simp only [maxLen]; omega) (by omega) hbase ?_
  · intro j u hu
    unfold flatZ at hu
    rw [List.getElem?_map] at hu
    cases hj : l2[j]? with
    | none => rw [hj] at hu; cases hu
    | some x => rw [hj] at hu; cases hu; exact h2 j x hj
  · intro u hu
    obtain ⟨x, _, rfl⟩ := List.mem_map.1 hu
    rfl
  · intro v' w' h1 h3 _
    have hsz := h3.size
    refine h v' w' (by unfold OwnZ; rw [List.length_append]; simpa [flatZ] using h1) (hB.grown h3 hbase ?_) (by omega)
    intro k hk
    exact (hown.lt k hk).1
set_option maxHeartbeats 1000000 in
theorem copy_row (l : List Int) (a : Addr) (cap : Nat) (w : World) (hl : l.length < 1000000) (h : ZAt w a l) :
    Calls Try.prog 59 #[.slice (some a) l.length cap] w fun e w' => ∃ v, e = .returned v ∧ OwnZ w' w.heap.size v l ∧ Below w.heap.size w w' := by
  have HZ : Hid (ZAt (w.alloc (.cells #[] 3)) a l) := h.below (Below.alloc (Below.refl _ _) (Nat.le_refl _) _) (Nat.le_refl _)
  have hB : Below w.heap.size w (w.alloc (.cells #[] 3)) := Below.alloc (Below.refl _ _) (Nat.le_refl _) _
  have HB := Lib.hid hB
  have HO := Lib.hid (OwnZ.empty w)
  clear h hB
  obtain ⟨n, hn⟩ : ∃ n, n = l.length := ⟨_, rfl⟩
  rw [← hn] at hl ⊢
  have HN := Lib.hid hn
  clear hn
  go_enter Try.func59, Try.ntmps59
  go_wp2_with (first | (at_builtin; go_must (refine append_zs HO.out HB.out (by simp) l a n cap HN.out HZ.out (by rw [← HN.out]; simpa using hl) rfl (.tmp 3) (.tmp 4) rfl (by rfl) (by rfl) ?_); intro v2 w2 hown2 hB2 hz2))
  go_ret
  exact ⟨_, rfl, hown2, hB2⟩
set_option maxHeartbeats 1000000 in
theorem copy_nil (w : World) :
    Calls Try.prog 59 #[.slice none 0 0] w fun e w' => ∃ v, e = .returned v ∧ RdZ w' v [] ∧ Below w.heap.size w w' := by
  go_enter Try.func59, Try.ntmps59
  go_wp2
  go_ret
  exact ⟨_, rfl, .inr ⟨_, _, rfl, fun k x hx => by simp at hx⟩, by (repeat (first | with_reducible assumption | with_reducible exact Below.refl _ _ | with_reducible refine Below.drewN ?_ _ | with_reducible refine Below.drew ?_ | with_reducible refine Below.alloc ?_ (by first | omega | (simp; done) | (simp; omega)) _ | with_reducible refine Below.setCell ?_ (by first | omega | (simp; done) | (simp; omega)) _ | with_reducible refine below_more _ _ ?_ (by first | omega | (simp; done) | (simp; omega))))⟩
theorem copy_any {w : World} {v : Value} {l : List Int} (h : RdZ w v l) (hl : l.length < 1000000) :
    Calls Try.prog 59 #[v] w fun e w' => ∃ v, e = .returned v ∧ RdZ w' v l ∧ Below w.heap.size w w' := by
  rcases h with ⟨rfl, rfl⟩ | ⟨a, cap, rfl, h⟩
  · exact copy_nil w
  · refine (copy_row l a cap w hl h).mono ?_
    rintro e w' ⟨v, rfl, h1, h2⟩
    exact ⟨v, rfl, h1.rd, h2⟩
end Go.Proofs.Ythajaabgcbjfkaa
