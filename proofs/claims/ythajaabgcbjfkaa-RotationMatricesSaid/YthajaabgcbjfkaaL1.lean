/- Arguments that are rotations, by value. -/
import Derived.Test.YthajaabgcbjfkaaL0
import Derived.Test.YthajaabgcbjfkaaEqs
import Derived.Laws.IdiomArrays
namespace Go.Proofs.Ythajaabgcbjfkaa
open Go.ChangeShapes Go.WideShapes Go.ChangeAt Go.RowKit Go.Joins Go.Deep

set_option maxRecDepth 100000 in
/-- An argument that is a rotation: nine numbers and a denominator. -/
theorem open_rot {H : Type} {enc : TypeId × Value → H} {w : World} {base b0 : Nat} {spare : Nat → Bool} {held : Bool} {r : Reach} {v : Value} {dd : DataW H} {p : List MemPlace}
    (hv : Value.okWide Try.prog w r b0 68 v) (h : DataW.Trod enc Try.prog w base spare held 68 v dd p) : ∃ x : Rt, v = .agg #[.int .i64 x.a, .int .i64 x.b, .int .i64 x.c, .int .i64 x.d, .int .i64 x.e, .int .i64 x.f, .int .i64 x.g, .int .i64 x.h, .int .i64 x.i, .int .i64 x.n] := by
  obtain ⟨cs, rfl, hsz⟩ := okWide_struct Try.underlying68 hv
  have c68 : Try.prog.cellsOf 68 = 10 := by kernel_rfl
  have c66 : Try.prog.cellsOf 66 = 9 := by kernel_rfl
  have c65 : Try.prog.cellsOf 65 = 3 := by kernel_rfl
  have c3 : Try.prog.cellsOf 3 = 1 := by kernel_rfl
  obtain ⟨l⟩ := cs
  match l, hsz.trans c68 with
  | [v0, v1, v2, v3, v4, v5, v6, v7, v8, v9], _ =>
    obtain ⟨fuel, hf⟩ := h
    obtain ⟨y0, y1, m, _, _, h0, h1⟩ := trod_struct2 Try.underlying68 hf
    simp [Value.cells, c66, c3] at h0 h1
    obtain ⟨xs, k, _, _, _, hl, hg⟩ := DataW.trod_array Try.underlying66 h0
    have g0 := hg 0 (by omega)
    have g1 := hg 1 (by omega)
    have g2 := hg 2 (by omega)
    match xs, hl with
    | [z0, z1, z2], _ =>
      simp [c65] at g0 g1 g2
      obtain ⟨_, _, _, _, _, a0, a1, a2⟩ := trod_array3 Try.underlying65 c3 g0
      obtain ⟨_, _, _, _, _, a3, a4, a5⟩ := trod_array3 Try.underlying65 c3 g1
      obtain ⟨_, _, _, _, _, a6, a7, a8⟩ := trod_array3 Try.underlying65 c3 g2
      obtain ⟨n0, e0, _, _⟩ := DataW.trod_int Try.underlying3 a0
      obtain ⟨n1, e1, _, _⟩ := DataW.trod_int Try.underlying3 a1
      obtain ⟨n2, e2, _, _⟩ := DataW.trod_int Try.underlying3 a2
      obtain ⟨n3, e3, _, _⟩ := DataW.trod_int Try.underlying3 a3
      obtain ⟨n4, e4, _, _⟩ := DataW.trod_int Try.underlying3 a4
      obtain ⟨n5, e5, _, _⟩ := DataW.trod_int Try.underlying3 a5
      obtain ⟨n6, e6, _, _⟩ := DataW.trod_int Try.underlying3 a6
      obtain ⟨n7, e7, _, _⟩ := DataW.trod_int Try.underlying3 a7
      obtain ⟨n8, e8, _, _⟩ := DataW.trod_int Try.underlying3 a8
      obtain ⟨n9, e9, _, _⟩ := DataW.trod_int Try.underlying3 h1
      simp at e0 e1 e2 e3 e4 e5 e6 e7 e8 e9
      subst e0 e1 e2 e3 e4 e5 e6 e7 e8 e9
      exact ⟨⟨n0, n1, n2, n3, n4, n5, n6, n7, n8, n9⟩, rfl⟩
end Go.Proofs.Ythajaabgcbjfkaa
