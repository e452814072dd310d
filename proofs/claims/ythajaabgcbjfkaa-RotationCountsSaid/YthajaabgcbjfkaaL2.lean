/- Arguments that are lists of numbers. -/
import Derived.Test.YthajaabgcbjfkaaL0
import Derived.Test.YthajaabgcbjfkaaX9
namespace Go.Proofs.Ythajaabgcbjfkaa
open Go.ChangeShapes Go.WideShapes Go.ChangeAt Go.RowKit Go.Joins Go.Deep

theorem cells_int : Try.prog.cellsOf 3 = 1 := by kernel_rfl
set_option maxRecDepth 100000 in
/-- An argument that is a list of numbers. -/
theorem open_intl {H : Type} {enc : TypeId × Value → H} {w : World} {base b0 : Nat} {spare : Nat → Bool} {held : Bool} {r : Reach} {v : Value} {d : DataW H} {p : List MemPlace}
    (hv : Value.okWide Try.prog w r b0 80 v) (h : DataW.Trod enc Try.prog w base spare held 80 v d p) : ∃ l : List Int, ArgZ w v l := by
  obtain ⟨a0, len0, cap0, rfl⟩ := okWide_slice Try.underlying80 hv
  obtain ⟨fuel, hf⟩ := h
  rcases open_ints Try.underlying80 Try.underlying3 cells_int hf with ⟨hcs, hx⟩ | ⟨a, len, cap, zs, hcs, _, hl, hm, hz, hx, hcell, hwz⟩
  · simp [Value.cells] at hcs
    obtain ⟨rfl, rfl, rfl⟩ := hcs
    exact ⟨[], none, 0, rfl, Nat.le_refl _, by omega, .inl ⟨rfl, rfl⟩⟩
  · simp [Value.cells] at hcs
    obtain ⟨rfl, rfl, rfl⟩ := hcs
    unfold maxLen at hm
    have hzl : len0 ≤ zs.length := by rw [hz]; split <;> omega
    have hlen : (zs.take len0).length = len0 := by rw [List.length_take]; omega
    refine ⟨zs.take len0, some a, cap0, by rw [hlen], by rw [hlen]; exact hl, hm, .inr ⟨a, cap0, by rw [hlen], fun k x hk => ?_⟩⟩
    have hkl : k < (zs.take len0).length := (List.getElem?_eq_some_iff.1 hk).1
    rw [hlen] at hkl
    rw [List.getElem?_take, if_pos hkl] at hk
    rw [hcell k (by omega), List.getD_eq_getElem?_getD, hk]; rfl
end Go.Proofs.Ythajaabgcbjfkaa
