/- Contracts: a copy of a model, its capacity besides; Factor, all outcomes. -/
import Derived.Test.YthajaabgcbjfkaaX4
import Derived.Test.YthajaabgcbjfkaaX5
import Derived.Test.YthajaabgcbjfkaaI2
namespace Go.Proofs.Ythajaabgcbjfkaa
open Go.RowKit
attribute [local go_sem ↓] Go.wp_at_zero Go.wp_at_succ

/-- A slice of numbers: where it stands, and that its length is at most its capacity. -/
def RdC (w : World) (v : Value) (l : List Int) : Prop := ∃ a cap, v = .slice a l.length cap ∧ l.length ≤ cap ∧ (l ≠ [] → ∃ g, a = some ⟨g, 0, none⟩ ∧ ZRow w g l)
theorem RdC.below {w w' : World} {v : Value} {l : List Int} (h : RdC w v l) (hb : Below w.heap.size w w') : RdC w' v l := by
  obtain ⟨a, cap, e, hc, h⟩ := h
  exact ⟨a, cap, e, hc, fun hl => by obtain ⟨g, e, h⟩ := h hl; exact ⟨g, e, ZRow.low hb h⟩⟩
theorem OwnZ.rdc {W : World} {b : Nat} {v : Value} {l : List Int} (h : OwnZ W b v l) : RdC W v l := by
  obtain ⟨h0, h⟩ := h
  rcases h with ⟨rfl, hn⟩ | ⟨g, cap, cur, rfl, _, hg, hle, _, hsz, htake⟩
  · exact ⟨none, 0, by rw [hn], by omega, fun hl => absurd (List.eq_nil_of_length_eq_zero hn) hl⟩
  · refine ⟨_, cap, rfl, hle, fun _ => ⟨g, rfl, (Array.getElem?_eq_some_iff.1 hg).1, fun k x hx => ?_⟩⟩
    rw [cell_of_row W g k cur 3 (0, 0) hg]
    have hu : (flatZ l)[k]? = some (.int .i64 x) := by unfold flatZ; rw [List.getElem?_map, hx]; rfl
    rw [← htake, List.getElem?_take] at hu
    split at hu
    · simpa using hu
    · cases hu
theorem copy_rdc {w : World} {v : Value} {l : List Int} (h : RdZ w v l) (hl : l.length < 1000000) :
    Calls Try.prog 59 #[v] w fun e w' => ∃ v, e = .returned v ∧ RdC w' v l ∧ Below w.heap.size w w' := by
  rcases h with ⟨rfl, rfl⟩ | ⟨a, cap, rfl, h⟩
  · refine (copy_nil w).mono ?_
    rintro e w' ⟨v, rfl, h1, h2⟩
    obtain ⟨a, cap, rfl⟩ := h1.len
    exact ⟨_, rfl, ⟨a, cap, rfl, Nat.zero_le _, fun h => absurd rfl h⟩, h2⟩
  · refine (copy_row l a cap w hl h).mono ?_
    rintro e w' ⟨v, rfl, h1, h2⟩
    exact ⟨v, rfl, h1.rdc, h2⟩
end Go.Proofs.Ythajaabgcbjfkaa
