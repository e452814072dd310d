/- Contract: Group of the reference, its first half: all that generators give. -/
import Derived.Test.YthajaabgcbjfkaaDoorJ5
namespace Go.Proofs.YthajaabgcbjfkaaDoor
open Go.RowKit Go.BigFrame
attribute [local go_sem ↓] Go.wp_at_zero Go.wp_at_succ

theorem arr4Info : (Tryd.prog.info? 35).map (fun i => (i.zero, i.size, i.bytes)) = some (some (.agg #[.int .i64 0, .int .i64 0, .int .i64 0, .int .i64 0]), 4, 32) := by kernel_rfl
def OwnF (w : World) (base : Nat) (v : Value) (l : List Qt) : Prop := w.ownsRow base 35 4 v l.length (flatQ l)
theorem OwnF.low {W W' : World} {base : Nat} {v : Value} {l : List Qt} (h : OwnF W base v l) (hb : Below W.heap.size W W') : OwnF W' base v l :=
  World.ownsRow.kept (row := none) h ⟨hb.os, hb.tape, hb.output, hb.size, fun k hk _ => hb.block k hk⟩ (by cases v.ownBlock <;> simp)
theorem OwnF.row {W : World} {base : Nat} {v : Value} {l : List Qt} (h : OwnF W base v l) (hl : 0 < l.length) : ∃ g cap, v = .slice (some ⟨g, 0, none⟩) l.length cap ∧ base ≤ g ∧ g < W.heap.size ∧ (∀ k q, l[k]? = some q → H4 W g k q) ∧ ∀ j, j < l.length * 4 → W.frozen? ⟨g, j, none⟩ = false := by
  obtain ⟨h0, h⟩ := h
  rcases h with ⟨_, hn⟩ | ⟨g, cap, cur, rfl, hb, hg, hle, hm, hsz, htake⟩
  · omega
  · have own : OwnF W base (.slice (some ⟨g, 0, none⟩) l.length cap) l := ⟨h0, .inr ⟨g, cap, cur, rfl, hb, hg, hle, hm, hsz, htake⟩⟩
    have hc := World.ownsRow.cells own (g := g) rfl
    have add0 : ∀ j, (⟨g, 0, none⟩ : Addr).add j = ⟨g, j, none⟩ := fun j => by unfold Addr.add; split <;> simp_all
    refine ⟨g, cap, rfl, hb, (Array.getElem?_eq_some_iff.1 hg).1, fun k q hq => ?_, fun j _ => frozen_of_row W g j cur _ hg⟩
    have e := fun j (hj : j < 4) => flatQ_get l k q hq j hj
    exact ⟨by rw [← add0]; exact hc _ _ (e 0 (by omega)), by rw [← add0]; exact hc _ _ (e 1 (by omega)), by rw [← add0]; exact hc _ _ (e 2 (by omega)), by rw [← add0]; exact hc _ _ (e 3 (by omega))⟩
theorem append_arr4 {w0 w : World} {base : Nat} {v : Value} {l : List Qt} (hown : OwnF w base v l) (hB : Below base w0 w) (hbase : base ≤ w.heap.size) (q : Qt) (hlen : l.length < 1000000)
    {ops : Array Oper} {rest : List Oper} {o : Oper} {a : Act} {Q : Exit → Act → World → Prop} (hgd : o.guard = none) (s x : Operand)
    (ho : o.op = .call { callee := .builtin .append, args := #[s, x], argTypes := #[29, 29] })
    (hs : a.eval s = v) {m : Nat} (hx : a.eval x = .slice (some ⟨m, 0, none⟩) 1 1) (hm : m = w.heap.size)
    (h : ∀ v' w', OwnF w' base v' (l ++ [q]) → Below base w0 w' → base ≤ w'.heap.size → wpList Tryd.prog ops Q rest (a.put o.dst v') w') : wpList Tryd.prog ops Q (o :: rest) a (w.alloc (.cells #[.int .i64 q.w, .int .i64 q.x, .int .i64 q.y, .int .i64 q.z] 35)) := by
  subst hm
  obtain ⟨i0, hi0, hz0, hz1, hz2⟩ := info_parts arr4Info
  refine wpList_append_own _ hgd s x 29 ho base 35 i0 _ 4 32 Tryd.underlying29 hi0 hz0 hz1 hz2 rfl (by omega) v l.length (flatQ l) hs (World.ownsRow.alloc hown _)
    ⟨w.heap.size, 0, none⟩ 1 1 (encQ q) hx rfl ?_ (encQ_one q) (by simp only [maxLen]; omega) (by omega) (by simp; omega) ?_
  · intro j u hu
    have : (⟨w.heap.size, 0, none⟩ : Addr).add j = ⟨w.heap.size, j, none⟩ := by unfold Addr.add; split <;> simp_all
    rw [this, cell_of_row _ _ _ _ _ _ (heap_alloc_new w _)]
    simpa [encQ] using hu
  · intro v' w' h1 h2 _
    have hsz : w.heap.size ≤ w'.heap.size := Nat.le_trans (by simp) h2.size
    refine h v' w' (by unfold OwnF; rw [flatQ_append]; simpa [flatQ] using h1) ((hB.alloc hbase _).grown h2 (by simp; omega) ?_) (by omega)
    intro k hk
    exact (hown.lt k hk).1
namespace Qt
/-- How far the reference's search has come. -/
structure RInv (L : List Qt) (A : List Qt) (i k : Nat) : Prop where
  nd : A.Nodup
  one : e1q ∈ A
  re : ∀ x ∈ A, Reach L x
  nr : ∀ x ∈ A, x.nrm ≤ 4000000000000 * 4000000
  bd : ∀ (j : Nat) (x : Qt), j < i → A[j]? = some x → Bd 1000000 x
  cl : ∀ (j : Nat) (x : Qt), j < i → A[j]? = some x → ∀ s ∈ L, op x s ∈ A
  ck : ∀ x, A[i]? = some x → ∀ s ∈ L.take k, op x s ∈ A
theorem rinv_start (L : List Qt) : RInv L [e1q] 0 0 :=
  ⟨by simp, by simp, fun x hx => by rw [List.mem_singleton.1 hx]; exact .one, fun x hx => by rw [List.mem_singleton.1 hx]; decide, fun j x hj => by omega, fun j x hj => by omega, fun x _ s hs => by simp at hs⟩
theorem rinv_old {L A : List Qt} {i k : Nat} {x s : Qt} (h : RInv L A i k) (hx : A[i]? = some x) (hs : L[k]? = some s) (ho : op x s ∈ A) : RInv L A i (k + 1) :=
  ⟨h.nd, h.one, h.re, h.nr, h.bd, h.cl, fun y hy t ht => by
    rw [hx] at hy; cases hy
    rw [take_snocJ hs] at ht
    rcases List.mem_append.1 ht with ht | ht
    · exact h.ck x hx t ht
    · rw [List.mem_singleton.1 ht]; exact ho⟩
theorem rinv_new {L A : List Qt} {i k : Nat} {x s : Qt} (h : RInv L A i k) (hx : A[i]? = some x) (hs : L[k]? = some s) (ho : op x s ∉ A) (hn : (op x s).nrm ≤ 4000000000000 * 4000000) : RInv L (A ++ [op x s]) i (k + 1) := by
  have hi : i < A.length := (List.getElem?_eq_some_iff.1 hx).1
  have old : ∀ (j : Nat) (y : Qt), j ≤ i → (A ++ [op x s])[j]? = some y → A[j]? = some y := fun j y hj hy => by
    rwa [List.getElem?_append_left (by omega)] at hy
  refine ⟨?_, List.mem_append_left _ h.one, fun y hy => ?_, fun y hy => ?_, fun j y hj hy => h.bd j y hj (old j y (by omega) hy), fun j y hj hy t ht => ?_, fun y hy t ht => ?_⟩
  · rw [List.nodup_append]
    refine ⟨h.nd, by simp, fun a ha b hb e => ?_⟩
    rw [List.mem_singleton.1 hb] at e
    exact ho (e ▸ ha)
  · rcases List.mem_append.1 hy with hy | hy
    · exact h.re y hy
    · rw [List.mem_singleton.1 hy]
      exact .step (h.re x (List.mem_of_getElem? hx)) (List.mem_of_getElem? hs)
  · rcases List.mem_append.1 hy with hy | hy
    · exact h.nr y hy
    · rw [List.mem_singleton.1 hy]; exact hn
  · exact List.mem_append_left _ (h.cl j y hj (old j y (by omega) hy) t ht)
  · have hy' := old i y (Nat.le_refl _) hy
    rw [hx] at hy'; cases hy'
    rw [take_snocJ hs] at ht
    rcases List.mem_append.1 ht with ht | ht
    · exact List.mem_append_left _ (h.ck x hx t ht)
    · rw [List.mem_singleton.1 ht]; exact List.mem_append_right _ (List.mem_singleton.2 rfl)
theorem rinv_next {L A : List Qt} {i : Nat} {x : Qt} (h : RInv L A i L.length) (hx : A[i]? = some x) (hb : Bd 1000000 x) : RInv L A (i + 1) 0 :=
  ⟨h.nd, h.one, h.re, h.nr, fun j y hj hy => by
    by_cases e : j = i
    · subst e; rw [hx] at hy; cases hy; exact hb
    · exact h.bd j y (by omega) hy, fun j y hj hy s hs => by
    by_cases e : j = i
    · subst e; exact h.ck y hy s (by rw [List.take_length]; exact hs)
    · exact h.cl j y (by omega) hy s hs, fun x _ s hs => by simp at hs⟩
theorem rinv_done {L : List Qt} {m : Nat} {A : List Qt} (h : RInv L A A.length 0) (hm : A.length ≤ m) : Full L m A := by
  refine ⟨h.nd, hm, fun x => ⟨h.re x, fun hx => ?_⟩, fun x hx => ?_⟩
  · induction hx with
    | one => exact h.one
    | @step a s h1 h2 ih =>
      obtain ⟨j, hj, e⟩ := List.getElem_of_mem ih
      exact h.cl j a hj (by rw [← e]; exact List.getElem?_eq_getElem hj) s h2
  · obtain ⟨j, hj, e⟩ := List.getElem_of_mem hx
    exact h.bd j x hj (by rw [← e]; exact List.getElem?_eq_getElem hj)
theorem rinv_long {L : List Qt} {m : Nat} {A : List Qt} {i k : Nat} (h : RInv L A i k) (hm : m < A.length) : ¬ ∃ B, Full L m B := by
  rintro ⟨B, hB⟩
  have := pig A B h.nd (fun y hy => (hB.mem y).2 (h.re y hy))
  have := hB.len
  omega
theorem rinv_big {L : List Qt} {m : Nat} {A : List Qt} {i k : Nat} (h : RInv L A i k) {x : Qt} (hx : A[i]? = some x) (hb : ¬ Bd 1000000 x) : ¬ ∃ B, Full L m B := by
  rintro ⟨B, hB⟩
  exact hb (hB.bd x ((hB.mem x).2 (h.re x (List.mem_of_getElem? hx))))
end Qt
/-- Writing of one quaternion into a row. -/
def setQ (w : World) (g k : Nat) (q : Qt) : World := (((w.setCell ⟨g, k * 4, none⟩ (.int .i64 q.w)).setCell ⟨g, k * 4 + 1, none⟩ (.int .i64 q.x)).setCell ⟨g, k * 4 + 2, none⟩ (.int .i64 q.y)).setCell ⟨g, k * 4 + 3, none⟩ (.int .i64 q.z)
theorem setQ_other {w : World} {g k j : Nat} {q p : Qt} (h : H4 w g j p) (hne : j ≠ k) : H4 (setQ w g k q) g j p := by
  have e : ∀ t, t < 4 → (setQ w g k q).cell? ⟨g, j * 4 + t, none⟩ = w.cell? ⟨g, j * 4 + t, none⟩ := fun t ht => by
    unfold setQ
    rw [World.cell?_setCell_other _ _ _ _ (fun e => by injection e; omega), World.cell?_setCell_other _ _ _ _ (fun e => by injection e; omega), World.cell?_setCell_other _ _ _ _ (fun e => by injection e; omega), World.cell?_setCell_other _ _ _ _ (fun e => by injection e; omega)]
  exact ⟨(e 0 (by omega)).trans h.c0, (e 1 (by omega)).trans h.c1, (e 2 (by omega)).trans h.c2, (e 3 (by omega)).trans h.c3⟩
theorem setQ_same {w : World} {g k : Nat} {q p : Qt} (h : H4 w g k p) : H4 (setQ w g k q) g k q := by
  unfold setQ
  have c1 := h.c1; have c2 := h.c2; have c3 := h.c3; have c0 := h.c0
  refine ⟨?_, ?_, ?_, ?_⟩
  · rw [World.cell?_setCell_other _ _ _ _ (fun e => by injection e; omega), World.cell?_setCell_other _ _ _ _ (fun e => by injection e; omega), World.cell?_setCell_other _ _ _ _ (fun e => by injection e; omega)]
    exact World.cell?_setCell_same _ _ _ c0
  · rw [World.cell?_setCell_other _ _ _ _ (fun e => by injection e; omega), World.cell?_setCell_other _ _ _ _ (fun e => by injection e; omega)]
    exact World.cell?_setCell_same _ _ _ ((World.cell?_setCell_other _ _ _ _ (fun e => by injection e; omega)).trans c1)
  · rw [World.cell?_setCell_other _ _ _ _ (fun e => by injection e; omega)]
    exact World.cell?_setCell_same _ _ _ ((World.cell?_setCell_other _ _ _ _ (fun e => by injection e; omega)).trans ((World.cell?_setCell_other _ _ _ _ (fun e => by injection e; omega)).trans c2))
  · exact World.cell?_setCell_same _ _ _ ((World.cell?_setCell_other _ _ _ _ (fun e => by injection e; omega)).trans ((World.cell?_setCell_other _ _ _ _ (fun e => by injection e; omega)).trans ((World.cell?_setCell_other _ _ _ _ (fun e => by injection e; omega)).trans c3)))
theorem setQ_frozen (w : World) (g k : Nat) (q : Qt) (a : Addr) : (setQ w g k q).frozen? a = w.frozen? a := by
  unfold setQ; rw [World.frozen?_setCell, World.frozen?_setCell, World.frozen?_setCell, World.frozen?_setCell]
theorem setQ_below {B : Nat} {a w : World} {g k : Nat} {q : Qt} (h : Below B a w) (hg : B ≤ g) : Below B a (setQ w g k q) :=
  (((h.setCell hg _).setCell hg _).setCell hg _).setCell hg _
theorem setQ_size (w : World) (g k : Nat) (q : Qt) : (setQ w g k q).heap.size = w.heap.size := by unfold setQ; simp
end Go.Proofs.YthajaabgcbjfkaaDoor
