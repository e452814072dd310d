/- Plain: a quaternion permutes the ideals of a norm. -/
import Derived.Test.YthajaabgcbjfkaaP3
namespace Go.Proofs.Ythajaabgcbjfkaa
open Go.RowKit

theorem unit_mem {u : Qt} (hu : Qt.Hz u) (hn : u.nrm = 4) : u ∈ unitsL := by
  rw [unitsL_eq, ← allH_one]
  exact mem_allH.2 ⟨hu, by rw [hn]; rfl⟩
theorem bezN (m n : Nat) : ∃ a b : Int, (m : Int) * a + n * b = (Nat.gcd m n : Int) := by
  induction m, n using Nat.gcd.induction with
  | H0 n => exact ⟨0, 1, by simp⟩
  | H1 m n hm ih =>
    obtain ⟨a, b, h⟩ := ih
    refine ⟨b - (n / m : Nat) * a, a, ?_⟩
    rw [Nat.gcd_rec, ← h]
    have e : (n : Int) = (m : Int) * ((n / m : Nat) : Int) + ((n % m : Nat) : Int) := by
      rw [← Int.natCast_mul, ← Int.natCast_add, Nat.div_add_mod]
    generalize ((n / m : Nat) : Int) = q at *
    generalize ((n % m : Nat) : Int) = r at *
    rw [e]; grind
theorem bezI (m n : Int) : ∃ a b : Int, m * a + n * b = (Int.gcd m n : Int) := by
  obtain ⟨a, b, h⟩ := bezN m.natAbs n.natAbs
  rw [Int.gcd_eq_natAbs_gcd_natAbs, ← h]
  refine ⟨if 0 ≤ m then a else -a, if 0 ≤ n then b else -b, ?_⟩
  have e1 : m * (if 0 ≤ m then a else -a) = (m.natAbs : Int) * a := by
    split
    · rw [show (m.natAbs : Int) = m by omega]
    · rw [show (m.natAbs : Int) = -m by omega]; grind
  have e2 : n * (if 0 ≤ n then b else -b) = (n.natAbs : Int) * b := by
    split
    · rw [show (n.natAbs : Int) = n by omega]
    · rw [show (n.natAbs : Int) = -n by omega]; grind
  rw [e1, e2]
namespace Qt
theorem zero_of_nrm {a : Qt} (h : a.nrm = 0) : a = zero := by
  obtain ⟨h0, h1, h2, h3⟩ := bd_of_nrm (a := a) (B := 0) (by omega) (by omega)
  exact ext' (by show a.w = 0; omega) (by show a.x = 0; omega) (by show a.y = 0; omega) (by show a.z = 0; omega)
/-- Two that divide each other from the left differ by a unit. -/
theorem dl_unit {x y : Qt} (hx : Hz x) (hy : Hz y) (h : Dl x y) (k : Dl y x) : ∃ u, Hz u ∧ u.nrm = 4 ∧ y = hm x u := by
  obtain ⟨q, hq, e1⟩ := h
  obtain ⟨q', hq', e2⟩ := k
  by_cases h0 : x.nrm = 0
  · have := zero_of_nrm h0
    subst this
    refine ⟨one, hz_one, by decide, ?_⟩
    rw [e1, zero_hm, zero_hm]
  · have n1 := hm_nrm hx hq
    have n2 := hm_nrm hy hq'
    rw [← e1] at n1
    rw [← e2] at n2
    have m1 := hz_nrm hq
    have m2 := hz_nrm hq'
    have p0 := x.nrm_nonneg
    have p1 := q.nrm_nonneg
    have p2 := q'.nrm_nonneg
    obtain ⟨b, hb⟩ : ∃ b, q.nrm = 4 * b := ⟨q.nrm / 4, by omega⟩
    obtain ⟨b', hb'⟩ : ∃ b', q'.nrm = 4 * b' := ⟨q'.nrm / 4, by omega⟩
    rw [hb] at n1; rw [hb'] at n2
    have f1 : x.nrm * (4 * b) = 4 * (x.nrm * b) := Int.mul_left_comm ..
    have f2 : y.nrm * (4 * b') = 4 * (y.nrm * b') := Int.mul_left_comm ..
    have g1 : y.nrm = x.nrm * b := by omega
    have g2 : x.nrm = y.nrm * b' := by omega
    have g3 : x.nrm * (b * b') = x.nrm * 1 := by rw [← Int.mul_assoc, ← g1, ← g2, Int.mul_one]
    have g4 := Int.eq_of_mul_eq_mul_left h0 g3
    have hb1 : b = 1 := Int.eq_one_of_mul_eq_one_right (by omega) g4
    exact ⟨q, hq, by omega, e1⟩
theorem canon_le {x y : Qt} (hx : Hz x) (h : ∃ u, Hz u ∧ u.nrm = 4 ∧ y = hm x u) : ¬ (canon x).lt (canon y) := by
  obtain ⟨u, hu, hn, rfl⟩ := h
  obtain ⟨_, h2, _⟩ := canon_spec x
  obtain ⟨_, _, h3⟩ := canon_spec (hm x u)
  rcases h3 with e | ⟨v, hv, e⟩
  · rw [e]; exact h2 u (unit_mem hu hn)
  · obtain ⟨v1, v2⟩ := unitsL_spec hv
    rw [e, hm_assoc hx hu v2]
    have := hm_nrm hu v2
    exact h2 _ (unit_mem (hz_hm hu v2) (by rw [hn, v1] at this; omega))
theorem canon_eq {x y : Qt} (hx : Hz x) (hy : Hz y) (h : Dl x y) (k : Dl y x) : canon x = canon y :=
  Qt.lt_tri (canon_le hx (dl_unit hx hy h k)) (canon_le hy (dl_unit hy hx k h))
theorem canon_canon {x : Qt} (hx : Hz x) : canon (canon x) = canon x :=
  (canon_eq hx (canon_hz hx).1 (canon_dl hx).2 (canon_dl hx).1).symm
theorem gcdQ_canon {x y : Qt} (hx : Hz x) (hy : Hz y) : canon (gcdQ x y) = gcdQ x y :=
  canon_canon (gcdF_dl _ x y hx hy (Nat.le_refl _)).1
/-- What has the same divisors has the same common divisor. -/
theorem gcdQ_same {a b c d : Qt} (ha : Hz a) (hb : Hz b) (hc : Hz c) (hd : Hz d) (h : ∀ s, Hz s → Dl s a → Dl s b → Dl s c ∧ Dl s d) (k : ∀ s, Hz s → Dl s c → Dl s d → Dl s a ∧ Dl s b) : gcdQ a b = gcdQ c d := by
  obtain ⟨z1, d1, d2, g1⟩ := gcdQ_spec ha hb
  obtain ⟨z2, e1, e2, g2⟩ := gcdQ_spec hc hd
  have p1 := h _ z1 d1 d2
  have p2 := k _ z2 e1 e2
  have := canon_eq z1 z2 (g2 _ z1 p1.1 p1.2) (g1 _ z2 p2.1 p2.2)
  rwa [gcdQ_canon ha hb, gcdQ_canon hc hd] at this
/-- The integer n, as a Hurwitz quaternion. -/
def num (n : Int) : Qt := ⟨2 * n, 0, 0, 0⟩
theorem num_hm (n : Int) (a : Qt) : hm (num n) a = smul n a := hm_int n a
theorem hm_num (n : Int) (a : Qt) : hm a (num n) = smul n a := int_hm n a
theorem hz_nm (n : Int) : Hz (num n) := hz_num n
/-- The ideal of y, moved by x, in norm p. -/
def phi (p : Int) (x y : Qt) : Qt := gcdQ (hm x y) (num p)
theorem hz_phi {p : Int} {x y : Qt} (hx : Hz x) (hy : Hz y) : Hz (phi p x y) := (gcdQ_spec (hz_hm hx hy) (hz_nm p)).1
theorem phi_comp {p : Int} {x x' y : Qt} (hx : Hz x) (hx' : Hz x') (hy : Hz y) : phi p x (phi p x' y) = phi p (hm x x') y := by
  have hp := hz_nm p
  have hxy := hz_hm hx' hy
  obtain ⟨hf, ⟨q, hq, eq⟩, _, _⟩ := gcdQ_spec hxy hp
  obtain ⟨u, v, hu, hv, eb⟩ := gcdQ_bez hxy hp
  change hm x' y = hm (phi p x' y) q at eq
  change Hz (phi p x' y) at hf
  change phi p x' y = _ at eb
  have e1 : hm (hm x x') y = hm x (hm x' y) := hm_assoc hx hx' hy
  refine gcdQ_same (hz_hm hx hf) hp (hz_hm (hz_hm hx hx') hy) hp (fun s hs h1 h2 => ⟨?_, h2⟩) (fun s hs h1 h2 => ⟨?_, h2⟩)
  · rw [e1, eq, ← hm_assoc hx hf hq]
    exact Dl.mul hs h1 hq
  · rw [e1] at h1
    have e2 : hm x (phi p x' y) = (hm (hm x (hm x' y)) u).add (hm (num p) (hm x v)) := by
      rw [eb, hm_add hx (hz_hm hxy hu) (hz_hm hp hv), hm_assoc hx hxy hu, ← hm_assoc hx hp hv, ← hm_assoc hp hx hv, hm_num, num_hm]
    show Dl s (hm x (phi p x' y))
    rw [e2]
    exact Dl.add hs (Dl.mul hs h1 hu) (Dl.mul hs h2 (hz_hm hx hv))
theorem add_smul (a b : Int) (y : Qt) : smul (a + b) y = (smul a y).add (smul b y) := by
  apply ext' <;> simp only [smul, add, Int.add_mul]
theorem smul_smul (a b : Int) (y : Qt) : smul a (smul b y) = smul (a * b) y := by
  apply ext' <;> simp only [smul, Int.mul_assoc]
/-- An integer that p does not divide moves nothing. -/
theorem phi_num {p n : Int} {y : Qt} (hy : Hz y) (_hp : 1 ≤ p) (hn : y.nrm = 4 * p) (hc : canon y = y) (hg : Int.gcd n p = 1) : phi p (num n) y = y := by
  have e0 : hm (num n) y = smul n y := num_hm n y
  have hpn := hz_nm p
  have hs := hz_smul n hy
  obtain ⟨z1, d1, d2, g1⟩ := gcdQ_spec hs hpn
  obtain ⟨a, b, hab⟩ := bezI n p
  rw [hg, Int.natCast_one] at hab
  have k1 : Dl (gcdQ (smul n y) (num p)) y := by
    have e : y = (hm (smul n y) (num a)).add (hm (num p) (smul b y)) := by
      rw [hm_num, num_hm, smul_smul, smul_smul, ← add_smul, Int.mul_comm a n, hab, one_smul]
    have h1 := Dl.add z1 (Dl.mul z1 d1 (hz_nm a)) (Dl.mul z1 d2 (hz_smul b hy))
    rwa [← e] at h1
  have k2 : Dl y (gcdQ (smul n y) (num p)) := by
    refine g1 y hy ⟨num n, hz_nm n, (hm_num n y).symm⟩ ⟨y.conj, hz_conj hy, ?_⟩
    rw [self_hm_conj hy, hn]
    have : 4 * p / 4 = p := by omega
    rw [this]; rfl
  have := canon_eq z1 hy k1 k2
  rw [gcdQ_canon hs hpn, hc] at this
  show gcdQ (hm (num n) y) (num p) = y
  rw [e0]; exact this
/-- The moved ideal has the same norm. -/
theorem phi_nrm {p : Int} {x y : Qt} (hx : Hz x) (hy : Hz y) (h1 : 1 ≤ x.nrm / 4) (hp : 1 ≤ p) (hn : y.nrm = 4 * p) (hg : Int.gcd (x.nrm / 4) p = 1) : (phi p x y).nrm = 4 * p ∧ canon (phi p x y) = phi p x y := by
  have e : y.nrm / 4 = p := by omega
  have h := exch_plain hx hy h1 (by omega) (by rw [e]; exact hg)
  rw [e] at h
  obtain ⟨_, _, _, _, h2, _⟩ := h
  exact ⟨by show (gcdQ (hm x y) ⟨2 * p, 0, 0, 0⟩).nrm = _; rw [h2, hn], gcdQ_canon (hz_hm hx hy) (hz_nm p)⟩
/-- What the conjugate moves is moved back. -/
theorem phi_back {p : Int} {x y : Qt} (hx : Hz x) (hy : Hz y) (hp : 1 ≤ p) (hn : y.nrm = 4 * p) (hc : canon y = y) (hg : Int.gcd (x.nrm / 4) p = 1) : phi p x (phi p x.conj y) = y := by
  rw [phi_comp hx (hz_conj hx) hy, self_hm_conj hx]
  exact phi_num hy hp hn hc hg
end Qt
end Go.Proofs.Ythajaabgcbjfkaa
