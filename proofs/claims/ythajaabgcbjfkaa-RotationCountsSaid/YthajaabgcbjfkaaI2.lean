/- Blocks of integers. -/
import Derived.Test.YthajaabgcbjfkaaI1
namespace Go.Proofs.Ythajaabgcbjfkaa
open Go.RowKit

/-- The block g holds the numbers l. -/
structure ZRow (w : World) (g : Nat) (l : List Int) : Prop where
  lt : g < w.heap.size
  at_ : ∀ (k : Nat) (x : Int), l[k]? = some x → w.cell? ⟨g, k, none⟩ = some (.int .i64 x)
theorem ZRow.mor {W : World} {g : Nat} {l : List Int} (h : ZRow W g l) (x : Nat × Array Obj) : ZRow (more W x) g l :=
  ⟨Nat.lt_of_lt_of_le h.lt (size_more W x), fun k v hv => by rw [cell?_more _ _ _ h.lt]; exact h.at_ k v hv⟩
theorem ZRow.alloc {W : World} {g : Nat} {l : List Int} (h : ZRow W g l) (o : Obj) : ZRow (W.alloc o) g l :=
  ⟨by have := h.lt; simp; omega, fun k v hv => by rw [World.cell?_alloc_lt _ _ _ h.lt]; exact h.at_ k v hv⟩
theorem ZRow.low {W w' : World} {g : Nat} {l : List Int} (hb : Below W.heap.size W w') (h : ZRow W g l) : ZRow w' g l := by
  obtain ⟨x, rfl⟩ := more_of_below hb
  exact h.mor x
theorem ZRow.rd {W : World} {g n c : Nat} {l : List Int} (h : ZRow W g l) (hn : l.length = n) : RdZ W (.slice (some ⟨g, 0, none⟩) n c) l := by
  subst hn
  exact .inr ⟨_, _, rfl, ZAt.plain.2 fun k x hx => by rw [Nat.zero_add]; exact h.at_ k x hx⟩
theorem OwnZ.row {W : World} {b : Nat} {v : Value} {l : List Int} (h : OwnZ W b v l) (hl : 0 < l.length) : ∃ g c, v = .slice (some ⟨g, 0, none⟩) l.length c ∧ ZRow W g l := by
  have hr := h.rd
  obtain ⟨_, h2⟩ := h
  rcases h2 with ⟨h2, h3⟩ | ⟨g, cap, cur, hv, hg, hh, r⟩
  · omega
  · refine ⟨g, cap, hv, (Array.getElem?_eq_some_iff.1 hh).1, fun k x hx => ?_⟩
    rcases hr with ⟨e, _⟩ | ⟨a, c, e, hz⟩
    · rw [hv] at e; cases e
    · rw [hv] at e
      injection e with e1 e2 e3
      injection e1 with e1
      subst e1
      have := ZAt.plain.1 hz k x hx
      rwa [Nat.zero_add] at this
end Go.Proofs.Ythajaabgcbjfkaa
