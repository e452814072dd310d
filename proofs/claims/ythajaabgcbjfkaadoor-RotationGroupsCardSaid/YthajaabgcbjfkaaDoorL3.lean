/- Arguments that are lists of quaternions. -/
import Derived.Test.YthajaabgcbjfkaaDoorL0
import Derived.Test.YthajaabgcbjfkaaDoorJ8
namespace Go.Proofs.YthajaabgcbjfkaaDoor
open Go.ChangeShapes Go.WideShapes Go.ChangeAt Go.RowKit Go.Joins Go.Deep

theorem cells_quat : Tryd.prog.cellsOf 33 = 5 := by kernel_rfl
section
variable {H : Type} {enc : TypeId × Value → H} {P : Program} {w : World} {base : Nat} {spare : Nat → Bool} {held : Bool}
/-- Five one-cell fields, read in memory. -/
theorem open_agg5c {t : TypeId} {f0 f1 f2 f3 f4 : Field} {fuel : Nat} {cs : List Value} {x : DataW H × List MemPlace} (hs : P.underlying t = some (.struct #[f0, f1, f2, f3, f4])) (hone : oneCellFields P #[f0, f1, f2, f3, f4] = true) (hlen : cs.length = 5)
    (h : DataW.trod enc P w base spare held fuel t cs = some x) :
    ∃ (v0 v1 v2 v3 v4 : Value) (y0 y1 y2 y3 y4 : DataW H × List MemPlace) (n : Nat), cs = [v0, v1, v2, v3, v4] ∧
      DataW.trod enc P w base spare held n f0.type [v0] = some y0 ∧ DataW.trod enc P w base spare held n f1.type [v1] = some y1 ∧ DataW.trod enc P w base spare held n f2.type [v2] = some y2 ∧ DataW.trod enc P w base spare held n f3.type [v3] = some y3 ∧ DataW.trod enc P w base spare held n f4.type [v4] = some y4 := by
  match cs, hlen with
  | [c0, c1, c2, c3, c4], _ =>
    obtain ⟨xs, n, _, hx, _, hl, hg⟩ := DataW.trod_struct hs h
    obtain ⟨o0, k0⟩ := hone_of hone 0 f0 rfl
    obtain ⟨o1, k1⟩ := hone_of hone 1 f1 rfl
    obtain ⟨o2, k2⟩ := hone_of hone 2 f2 rfl
    obtain ⟨o3, k3⟩ := hone_of hone 3 f3 rfl
    obtain ⟨o4, k4⟩ := hone_of hone 4 f4 rfl
    match xs, hl with
    | [y0, y1, y2, y3, y4], _ =>
      exact ⟨c0, c1, c2, c3, c4, y0, y1, y2, y3, y4, n, rfl, by simpa [Value.cells, o0, k0] using hg 0 f0 rfl, by simpa [Value.cells, o1, k1] using hg 1 f1 rfl, by simpa [Value.cells, o2, k2] using hg 2 f2 rfl, by simpa [Value.cells, o3, k3] using hg 3 f3 rfl, by simpa [Value.cells, o4, k4] using hg 4 f4 rfl⟩
end
set_option maxRecDepth 100000 in
/-- An argument that is a list of quaternions. -/
theorem open_quatl {H : Type} {enc : TypeId × Value → H} {w : World} {base b0 : Nat} {spare : Nat → Bool} {held : Bool} {r : Reach} {v : Value} {d : DataW H} {p : List MemPlace}
    (hv : Value.okWide Tryd.prog w r b0 22 v) (h : DataW.Trod enc Tryd.prog w base spare held 22 v d p) : ∃ l : List Qd, ArgQ w v l := by
  obtain ⟨a0, len0, cap0, rfl⟩ := okWide_slice Tryd.underlying22 hv
  obtain ⟨fuel, hf⟩ := h
  rcases open_slice Tryd.underlying22 hf with ⟨hcs, hx⟩ | ⟨a, len, cap, m, n, D, Pl, hcs, _, hl, hm, hmm, _, hel⟩
  · simp [Value.cells] at hcs
    obtain ⟨rfl, rfl, rfl⟩ := hcs
    exact ⟨[], .inl ⟨rfl, rfl⟩⟩
  · simp [Value.cells] at hcs
    obtain ⟨rfl, rfl, rfl⟩ := hcs
    unfold maxLen at hm
    rw [cells_quat] at hel
    have hlm : len0 ≤ m := by rw [hmm]; split <;> omega
    haveI : Inhabited Qd := ⟨⟨0, 0, 0, 0, 1⟩⟩
    obtain ⟨F, hF⟩ := choose_lt (α := Qd) (n := len0) (p := fun i (q : Qd) => ∀ j, j < 5 → w.cell? ((a.add (i * 5)).add j) = (encD q)[j]?) (fun i hi => by
      obtain ⟨cs', h1, h2⟩ := hel i (by omega)
      obtain ⟨_, hlen, hc⟩ := World.cells?_some h1
      obtain ⟨v0, v1, v2, v3, v4, y0, y1, y2, y3, y4, k, rfl, g0, g1, g2, g3, g4⟩ := open_agg5c Tryd.underlying33 (by kernel_rfl) hlen h2
      obtain ⟨a0, e0, _, w0⟩ := DataW.trod_int Tryd.underlying3 g0
      obtain ⟨a1, e1, _, w1⟩ := DataW.trod_int Tryd.underlying3 g1
      obtain ⟨a2, e2, _, w2⟩ := DataW.trod_int Tryd.underlying3 g2
      obtain ⟨a3, e3, _, w3⟩ := DataW.trod_int Tryd.underlying3 g3
      obtain ⟨a4, e4, _, w4⟩ := DataW.trod_int Tryd.underlying3 g4
      simp at e0 e1 e2 e3 e4
      subst e0 e1 e2 e3 e4
      exact ⟨⟨a0, a1, a2, a3, a4⟩, fun j hj => hc j hj⟩)
    have ad : ∀ (b : Addr) (r : Nat), r ≠ 0 → b.add r = ⟨b.block, b.off + r, none⟩ := fun b r hr => by unfold Addr.add; rw [if_neg hr]
    refine ⟨(List.range len0).map F, .inr ⟨a, cap0, by simp, by simpa using hl, hm, fun k q hq => ?_⟩⟩
    have hk : k < len0 := by simpa using (List.getElem?_eq_some_iff.1 hq).1
    rw [List.getElem?_map, List.getElem?_range hk] at hq
    cases hq
    have hk2 := hF k hk
    exact ⟨hk2 0 (by omega), by rw [← ad _ 1 (by omega)]; exact hk2 1 (by omega), by rw [← ad _ 2 (by omega)]; exact hk2 2 (by omega), by rw [← ad _ 3 (by omega)]; exact hk2 3 (by omega), by rw [← ad _ 4 (by omega)]; exact hk2 4 (by omega)⟩
end Go.Proofs.YthajaabgcbjfkaaDoor
