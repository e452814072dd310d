/- Plain: the remainder of a division is lesser; the contract of division for Hurwitz quaternions. -/
import Derived.Test.YthajaabgcbjfkaaH2
import Derived.Test.YthajaabgcbjfkaaD1
namespace Go.Proofs.Ythajaabgcbjfkaa
open Go.RowKit
namespace Qt

/-- The distance, at the coordinates of twice the product. -/
def dst (x y q : Qt) : Qt := (dbl (y.conj.mul x)).sub ⟨y.nrm * q.w, y.nrm * q.x, y.nrm * q.y, y.nrm * q.z⟩
theorem dst_nrm (x y q : Qt) : y.nrm * ((dbl x).sub (y.mul q)).nrm = (dst x y q).nrm := by
  rw [dst, ← rem_id, nrm_mul, nrm_conj]
theorem rm_dbl {x y q : Qt} (hy : Hz y) (hq : Hz q) : (dbl x).sub (y.mul q) = dbl (x.rm y q) := by
  unfold rm
  have := (hm_spec hy hq).2
  rw [show (y.mul q).over 2 = hm y q from rfl, this]
  apply ext' <;> (simp only [dbl, sub]; omega)
theorem rm_nrm {x y q : Qt} (hy : Hz y) (hq : Hz q) : y.nrm * (4 * (x.rm y q).nrm) = (dst x y q).nrm := by
  rw [← dst_nrm, rm_dbl hy hq, nrm_dbl]
/-- One coordinate: both candidates, from the product's coordinate t and the norm N. -/
theorem near_a (t N : Int) (hN : 1 ≤ N) : -N ≤ 2 * t - N * (2 * ((2 * t + N) / (2 * N))) ∧ 2 * t - N * (2 * ((2 * t + N) / (2 * N))) < N := by
  have h1 := Int.mul_ediv_add_emod (2 * t + N) (2 * N)
  have h2 := Int.emod_nonneg (2 * t + N) (b := 2 * N) (by omega)
  have h3 := Int.emod_lt_of_pos (2 * t + N) (b := 2 * N) (by omega)
  have h4 : N * (2 * ((2 * t + N) / (2 * N))) = 2 * N * ((2 * t + N) / (2 * N)) := by grind
  omega
theorem near_b (t N : Int) (hN : 1 ≤ N) : -N ≤ 2 * t - N * (2 * (t / N) + 1) ∧ 2 * t - N * (2 * (t / N) + 1) < N := by
  have h1 := Int.mul_ediv_add_emod t N
  have h2 := Int.emod_nonneg t (b := N) (by omega)
  have h3 := Int.emod_lt_of_pos t (b := N) (by omega)
  have h4 : N * (2 * (t / N) + 1) = 2 * (N * (t / N)) + N := by grind
  omega
/-- The two candidates' distances add up to N, in size. -/
theorem near_ab (t N : Int) (hN : 1 ≤ N) :
    (2 * t - N * (2 * ((2 * t + N) / (2 * N)))) * (2 * t - N * (2 * ((2 * t + N) / (2 * N)))) + (2 * t - N * (2 * (t / N) + 1)) * (2 * t - N * (2 * (t / N) + 1)) ≤ N * N := by
  obtain ⟨a1, a2⟩ := near_a t N hN
  obtain ⟨b1, b2⟩ := near_b t N hN
  -- the difference is N or -N (or 2N .. out of range)
  have hd : ∃ k : Int, (2 * t - N * (2 * (t / N) + 1)) - (2 * t - N * (2 * ((2 * t + N) / (2 * N)))) = N * (2 * k + 1) := ⟨(2 * t + N) / (2 * N) - t / N - 1, by grind⟩
  generalize 2 * t - N * (2 * ((2 * t + N) / (2 * N))) = u at *
  generalize 2 * t - N * (2 * (t / N) + 1) = v at *
  obtain ⟨k, hk⟩ := hd
  have hk1 : -2 < 2 * k + 1 := by
    apply Int.not_le.1; intro hc
    have : N * (2 * k + 1) ≤ N * (-2) := Int.mul_le_mul_of_nonneg_left hc (by omega)
    omega
  have hk2 : 2 * k + 1 < 2 := by
    apply Int.not_le.1; intro hc
    have : N * 2 ≤ N * (2 * k + 1) := Int.mul_le_mul_of_nonneg_left hc (by omega)
    omega
  have hk3 : k = 0 ∨ k = -1 := by omega
  rcases hk3 with rfl | rfl
  · obtain rfl : v = u + N := by omega
    have : u * (u + N) ≤ 0 := by
      have h1 : (-u) * (u + N) ≥ 0 := Int.mul_nonneg (by omega) (by omega)
      rw [Int.neg_mul] at h1; omega
    grind
  · obtain rfl : v = u - N := by omega
    have : u * (u - N) ≤ 0 := by
      have h1 : u * (N - u) ≥ 0 := Int.mul_nonneg (by omega) (by omega)
      grind
    grind
theorem n4 {y : Qt} (h : y.nrm % 4 = 0) : 4 * (y.nrm / 4) = y.nrm := by omega
theorem dst_a {x y : Qt} (h4 : y.nrm % 4 = 0) (h0 : 1 ≤ y.nrm) : (dst x y (x.qa y)).nrm ≤ 4 * (y.nrm * y.nrm) := by
  have sq : ∀ u N : Int, -N ≤ u → u < N → u * u ≤ N * N := fun u N h1 h2 => by
    have : (N - u) * (N + u) ≥ 0 := Int.mul_nonneg (by omega) (by omega)
    grind
  have k := fun t => near_a t y.nrm h0
  have k1 := sq _ _ (k (y.conj.mul x).w).1 (k (y.conj.mul x).w).2
  have k2 := sq _ _ (k (y.conj.mul x).x).1 (k (y.conj.mul x).x).2
  have k3 := sq _ _ (k (y.conj.mul x).y).1 (k (y.conj.mul x).y).2
  have k4 := sq _ _ (k (y.conj.mul x).z).1 (k (y.conj.mul x).z).2
  simp only [nrm, dst, qa, sub, dbl]
  rw [show 4 * ((y.w * y.w + y.x * y.x + y.y * y.y + y.z * y.z) / 4) = y.nrm from n4 h4]
  rw [show y.w * y.w + y.x * y.x + y.y * y.y + y.z * y.z = y.nrm from rfl]
  omega
theorem dst_b {x y : Qt} (h4 : y.nrm % 4 = 0) (h0 : 1 ≤ y.nrm) : (dst x y (x.qb y)).nrm ≤ 4 * (y.nrm * y.nrm) := by
  have sq : ∀ u N : Int, -N ≤ u → u < N → u * u ≤ N * N := fun u N h1 h2 => by
    have : (N - u) * (N + u) ≥ 0 := Int.mul_nonneg (by omega) (by omega)
    grind
  have k := fun t => near_b t y.nrm h0
  have k1 := sq _ _ (k (y.conj.mul x).w).1 (k (y.conj.mul x).w).2
  have k2 := sq _ _ (k (y.conj.mul x).x).1 (k (y.conj.mul x).x).2
  have k3 := sq _ _ (k (y.conj.mul x).y).1 (k (y.conj.mul x).y).2
  have k4 := sq _ _ (k (y.conj.mul x).z).1 (k (y.conj.mul x).z).2
  simp only [nrm, dst, qb, sub, dbl]
  rw [show 4 * ((y.w * y.w + y.x * y.x + y.y * y.y + y.z * y.z) / 4) = y.nrm from n4 h4]
  rw [show y.w * y.w + y.x * y.x + y.y * y.y + y.z * y.z = y.nrm from rfl]
  omega
theorem dst_ab {x y : Qt} (h4 : y.nrm % 4 = 0) (h0 : 1 ≤ y.nrm) : (dst x y (x.qa y)).nrm + (dst x y (x.qb y)).nrm ≤ 4 * (y.nrm * y.nrm) := by
  have k1 := near_ab (y.conj.mul x).w y.nrm h0
  have k2 := near_ab (y.conj.mul x).x y.nrm h0
  have k3 := near_ab (y.conj.mul x).y y.nrm h0
  have k4 := near_ab (y.conj.mul x).z y.nrm h0
  simp only [nrm, dst, qa, qb, sub, dbl]
  rw [show 4 * ((y.w * y.w + y.x * y.x + y.y * y.y + y.z * y.z) / 4) = y.nrm from n4 h4]
  rw [show y.w * y.w + y.x * y.x + y.y * y.y + y.z * y.z = y.nrm from rfl]
  omega
theorem le_of_n {N a b : Int} (h0 : 1 ≤ N) (h : N * a ≤ N * b) : a ≤ b := Int.le_of_mul_le_mul_left h (by omega)
theorem rm_a {x y : Qt} (hy : Hz y) (h0 : 1 ≤ y.nrm) : (x.rm y (x.qa y)).nrm ≤ y.nrm := by
  have h := rm_nrm (x := x) hy (hz_qa x y)
  have h2 := dst_a (x := x) (hz_nrm hy) h0
  have : y.nrm * (4 * (x.rm y (x.qa y)).nrm) ≤ y.nrm * (4 * y.nrm) := by grind
  have := le_of_n h0 this
  omega
theorem rm_b {x y : Qt} (hy : Hz y) (h0 : 1 ≤ y.nrm) : (x.rm y (x.qb y)).nrm ≤ y.nrm := by
  have h := rm_nrm (x := x) hy (hz_qb x y)
  have h2 := dst_b (x := x) (hz_nrm hy) h0
  have : y.nrm * (4 * (x.rm y (x.qb y)).nrm) ≤ y.nrm * (4 * y.nrm) := by grind
  have := le_of_n h0 this
  omega
theorem rm_ab {x y : Qt} (hy : Hz y) (h0 : 1 ≤ y.nrm) : (x.rm y (x.qa y)).nrm + (x.rm y (x.qb y)).nrm ≤ y.nrm := by
  have h := rm_nrm (x := x) hy (hz_qa x y)
  have h' := rm_nrm (x := x) hy (hz_qb x y)
  have h2 := dst_ab (x := x) (hz_nrm hy) h0
  have : y.nrm * (4 * ((x.rm y (x.qa y)).nrm + (x.rm y (x.qb y)).nrm)) ≤ y.nrm * (4 * y.nrm) := by grind
  have := le_of_n h0 this
  omega
theorem hz_quo (x y : Qt) : Hz (x.quo y) := by
  unfold quo; split
  · exact hz_qb x y
  · exact hz_qa x y
theorem hz_dr {x y : Qt} (hx : Hz x) (hy : Hz y) : Hz (x.dr y) := hz_rm hx hy (hz_quo x y)
/-- The remainder's norm is at most half of the divisor's. -/
theorem dr_nrm {x y : Qt} (hx : Hz x) (hy : Hz y) (h0 : 1 ≤ y.nrm) : 2 * (x.dr y).nrm ≤ y.nrm := by
  have h := rm_ab (x := x) hy h0
  have ha := hz_nrm (hz_rm hx hy (hz_qa x y))
  have hb := hz_nrm (hz_rm hx hy (hz_qb x y))
  unfold dr quo pickb
  split
  · rename_i hp; have := of_decide_eq_true hp; omega
  · rename_i hp; have := of_decide_eq_false (Bool.not_eq_true _ ▸ hp); omega
/-- What is divided is put together again. -/
theorem dr_eq (x y : Qt) (hy : Hz y) : (dbl x).sub (y.mul (x.quo y)) = dbl (x.dr y) := rm_dbl hy (hz_quo x y)
end Qt

/-- Division of Hurwitz quaternions. -/
theorem divide_hz (x y : Qt) (_hx : Qt.Hz x) (hy : Qt.Hz y) (bx : x.nrm ≤ 4000000000000) (b : y.nrm ≤ 4000000000000) (h0 : 1 ≤ y.nrm) (w : World) :
    Calls Try.prog 66 #[.agg #[.int .i64 x.w, .int .i64 x.x, .int .i64 x.y, .int .i64 x.z], .agg #[.int .i64 y.w, .int .i64 y.x, .int .i64 y.y, .int .i64 y.z]] w fun e w' => e = .returned (.tuple #[.agg #[.int .i64 (x.quo y).w, .int .i64 (x.quo y).x, .int .i64 (x.quo y).y, .int .i64 (x.quo y).z], .agg #[.int .i64 (x.dr y).w, .int .i64 (x.dr y).x, .int .i64 (x.dr y).y, .int .i64 (x.dr y).z]]) ∧ Below w.heap.size w w' := by
  have hD : Qt.Dv x y := ⟨bx, b, h0, Qt.hz_nrm hy⟩
  have ht : (y.conj.mul x).nrm ≤ 4000000000000 * 4000000000000 := by
    rw [Qt.nrm_mul, Qt.nrm_conj]
    exact Int.le_trans (Int.mul_le_mul_of_nonneg_left bx (by omega)) (Int.mul_le_mul_of_nonneg_right b (by omega))
  have hT : Qt.Bd 4000000000000 (y.conj.mul x) := Qt.bd_of_nrm (by omega) ht
  have hx1 := Qt.bd_of_nrm (a := x) (B := 2000000) (by omega) (by omega)
  have ra := Qt.rm_a (x := x) hy h0
  have rb := Qt.rm_b (x := x) hy h0
  have big : ∀ q, Qt.Hz q → (x.rm y q).nrm ≤ y.nrm → (y.mul q).InR := fun q hq hr => by
    have h1 := Qt.rm_dbl (x := x) hy hq
    have h2 := Qt.bd_of_nrm (a := x.rm y q) (B := 2000000) (by omega) (by omega)
    have e1 := congrArg Qt.w h1; have e2 := congrArg Qt.x h1; have e3 := congrArg Qt.y h1; have e4 := congrArg Qt.z h1
    simp only [Qt.dbl, Qt.sub] at e1 e2 e3 e4
    obtain ⟨⟨_, _⟩, ⟨_, _⟩, ⟨_, _⟩, ⟨_, _⟩⟩ := hx1
    obtain ⟨⟨_, _⟩, ⟨_, _⟩, ⟨_, _⟩, ⟨_, _⟩⟩ := h2
    unfold Qt.InR
    refine ⟨?_, ?_, ?_, ?_⟩ <;> omega
  exact divide_in x y w hD (Qt.inR_of_nrm (by omega)) (Qt.inR_of_nrm (by omega)) (big _ (Qt.hz_qa x y) ra) (big _ (Qt.hz_qb x y) rb)
    (Qt.inR_of_nrm (by omega)) (Qt.inR_of_nrm (by omega)) (by omega) (by omega) hT
end Go.Proofs.Ythajaabgcbjfkaa
