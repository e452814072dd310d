/- Plain and contracts: what division's parts are within. -/
import Derived.Test.YthajaabgcbjfkaaR5
import Derived.Test.YthajaabgcbjfkaaV2
namespace Go.Proofs.Ythajaabgcbjfkaa
open Go.RowKit
namespace Qt
theorem bd_InR {a : Qt} {B : Int} (hB : B ≤ 4000000000000000000) (h : Bd B a) : a.InR := by
  obtain ⟨⟨_, _⟩, ⟨_, _⟩, ⟨_, _⟩, ⟨_, _⟩⟩ := h
  unfold InR; refine ⟨?_, ?_, ?_, ?_⟩ <;> omega
structure DivF (x y : Qt) : Prop where
  quoB : Bd 40000000000000 (x.quo y)
  drN : 2 * (x.dr y).nrm ≤ y.nrm
  drB : Bd 2000000 (x.dr y)
  mulI : (y.mul (x.quo y)).InR
  hmB : Bd 4000000 (hm y (x.quo y))
theorem divF {x y : Qt} (hx : Hz x) (hy : Hz y) (bx : x.nrm ≤ 4000000000000) (b : y.nrm ≤ 4000000000000) (h0 : 1 ≤ y.nrm) : DivF x y := by
  have hD : Dv x y := ⟨bx, b, h0, hz_nrm hy⟩
  have ht : (y.conj.mul x).nrm ≤ 4000000000000 * 4000000000000 := by
    rw [nrm_mul, nrm_conj]
    exact Int.le_trans (Int.mul_le_mul_of_nonneg_left bx (by omega)) (Int.mul_le_mul_of_nonneg_right b (by omega))
  have hT : Bd 4000000000000 (y.conj.mul x) := bd_of_nrm (by omega) ht
  have hx1 := bd_of_nrm (a := x) (B := 2000000) (by omega) (by omega)
  have hq : Bd 40000000000000 (x.quo y) := by
    unfold quo; split
    · exact qb_bd x y hD hT
    · exact qa_bd x y hD hT
  have hn := dr_nrm hx hy h0
  have hd : Bd 2000000 (x.dr y) := bd_of_nrm (by omega) (by omega)
  have h1 := dr_eq x y hy
  have h2 := (hm_spec hy (hz_quo x y)).2
  rw [h2] at h1
  have e1 := congrArg Qt.w h1; have e2 := congrArg Qt.x h1; have e3 := congrArg Qt.y h1; have e4 := congrArg Qt.z h1
  simp only [dbl, sub] at e1 e2 e3 e4
  have hB : Bd 4000000 (hm y (x.quo y)) := by
    obtain ⟨⟨_, _⟩, ⟨_, _⟩, ⟨_, _⟩, ⟨_, _⟩⟩ := hx1
    obtain ⟨⟨_, _⟩, ⟨_, _⟩, ⟨_, _⟩, ⟨_, _⟩⟩ := hd
    refine ⟨?_, ?_, ?_, ?_⟩ <;> omega
  refine ⟨hq, hn, hd, ?_, hB⟩
  rw [h2]
  obtain ⟨⟨_, _⟩, ⟨_, _⟩, ⟨_, _⟩, ⟨_, _⟩⟩ := hB
  unfold InR dbl; refine ⟨?_, ?_, ?_, ?_⟩ <;> (simp only; omega)
end Qt

/-- What an element that can be opened gives. -/
structure Opn (q : Qd) : Prop where
  okb : q.okb = true
  rdok : q.rdok = true
  hz : Qt.Hz q.rdv
  nrm : q.rdv.nrm ≤ 4000000
theorem Opn.of {q : Qd} (h : q.oerr = 0) : Opn q := by
  obtain ⟨h1, h2, h3⟩ := Qd.oerr_zero h
  have hz := Qd.hz_rdv h2
  have := Qt.hz_nrm hz
  exact ⟨h1, h2, hz, by omega⟩
theorem oerrL_two (x y : Qd) : oerrL [x, y] = if x.oerr = 0 then y.oerr else x.oerr := by
  simp only [oerrL]
  split
  · by_cases h : y.oerr = 0 <;> simp [h]
  · rfl
/-- Divide, of two elements that can be opened. -/
theorem divide_opn (x y : Qd) (hx : x.oerr = 0) (hy : y.oerr = 0) (hz : y.rdv.eqb ⟨0, 0, 0, 0⟩ = false) (w : World) :
    Calls Try.prog 15 #[.agg #[.int .i64 x.w, .int .i64 x.x, .int .i64 x.y, .int .i64 x.z, .int .i64 x.d], .agg #[.int .i64 y.w, .int .i64 y.x, .int .i64 y.y, .int .i64 y.z, .int .i64 y.d]] w fun e w' => e = .returned (.tuple #[.agg #[.int .i64 ((x.rdv.quo y.rdv).toQ.w), .int .i64 ((x.rdv.quo y.rdv).toQ.x), .int .i64 ((x.rdv.quo y.rdv).toQ.y), .int .i64 ((x.rdv.quo y.rdv).toQ.z), .int .i64 ((x.rdv.quo y.rdv).toQ.d), .int .i64 ((x.rdv.dr y.rdv).toQ.w), .int .i64 ((x.rdv.dr y.rdv).toQ.x), .int .i64 ((x.rdv.dr y.rdv).toQ.y), .int .i64 ((x.rdv.dr y.rdv).toQ.z), .int .i64 ((x.rdv.dr y.rdv).toQ.d)], .int .i64 0]) ∧ Below w.heap.size w w' := by
  obtain ⟨_, _, hx3, hx4⟩ := Opn.of hx
  obtain ⟨_, _, hy3, hy4⟩ := Opn.of hy
  have h0 := nrm_pos_of hz
  have F := Qt.divF hx3 hy3 (by omega) (by omega) h0
  exact divide_ok x y w (by rw [oerrL_two, if_pos hx]; exact hy) hz _ _ (Qt.bd_InR (by omega) F.quoB) (Qt.bd_InR (by omega) F.drB) (divide_hz _ _ hx3 hy3 (by omega) (by omega) h0)
end Go.Proofs.Ythajaabgcbjfkaa
