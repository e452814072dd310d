/- Plain: the factorization of a primitive quaternion along a model. -/
import Derived.Test.YthajaabgcbjfkaaY5
import Derived.Test.YthajaabgcbjfkaaT1
namespace Go.Proofs.Ythajaabgcbjfkaa
open Go.RowKit

theorem prm_dvd {p c : Nat} (hp : Prm p) (h : c ∣ p) : c = 1 ∨ c = p := by
  obtain ⟨m, hm⟩ := h
  have h2 := hp.1
  have c0 : c ≠ 0 := fun e => by rw [e, Nat.zero_mul] at hm; omega
  have m0 : m ≠ 0 := fun e => by rw [e, Nat.mul_zero] at hm; omega
  by_cases c1 : c = 1
  · exact .inl c1
  by_cases m1 : m = 1
  · right; rw [hm, m1, Nat.mul_one]
  exfalso
  by_cases hcm : c ≤ m
  · exact hp.2 c (by omega) (by rw [hm]; exact Nat.mul_le_mul_left c hcm) (by rw [hm]; exact Nat.mul_mod_right c m)
  · exact hp.2 m (by omega) (by rw [hm]; exact Nat.mul_le_mul_right m (by omega)) (by rw [hm]; exact Nat.mul_mod_left c m)
namespace Qt
/-- No number from 2 on divides h. -/
def Prim (h : Qt) : Prop := ∀ m : Int, 2 ≤ m → ¬ ∃ q, Hz q ∧ h = smul m q
theorem dvd_gq {h q : Qt} {m : Int} (e : h = smul m q) : m ∣ h.gq :=
  dvd_g4 ⟨q.w, by rw [e]; rfl⟩ ⟨q.x, by rw [e]; rfl⟩ ⟨q.y, by rw [e]; rfl⟩ ⟨q.z, by rw [e]; rfl⟩
theorem prim_ctn {h : Qt} (hz : Hz h) (h0 : h.eqb ⟨0, 0, 0, 0⟩ = false) : h.ctn = 1 ↔ Prim h := by
  obtain ⟨c1, c2, c3, c4⟩ := ctn_spec hz h0
  constructor
  · intro hc m hm hq
    obtain ⟨q, hq, e⟩ := hq
    have hd := Int.le_of_dvd (by omega) (dvd_gq e)
    have := c4 m (by omega) hd
    rw [(ovok_iff (by omega)).2 ⟨q, hq, e⟩] at this
    exact absurd this (by decide)
  · intro hp
    apply Int.le_antisymm _ c1
    apply Int.not_lt.1; intro hc
    exact hp h.ctn (by omega) ((ovok_iff (by omega)).1 c3)
theorem hm_smul (m : Int) {a b : Qt} (ha : Hz a) (hb : Hz b) : hm a (smul m b) = smul m (hm a b) := by
  rw [← num_hm m b, ← hm_assoc ha (hz_nm m) hb, hm_num, ← num_hm m a, hm_assoc (hz_nm m) ha hb, num_hm]
/-- What stands behind d in h. -/
def lq (d h : Qt) : Qt := (d.conj.mul h).over (2 * (d.nrm / 4))
theorem lq_eq {d t : Qt} (hd : Hz d) (ht : Hz t) (h : 1 ≤ d.nrm / 4) : lq d (hm d t) = t := before_plain hd ht h
/-- One step of the factorization, of a quaternion that p does not divide. -/
theorem fac_step' {h : Qt} {p : Nat} (hz : Hz h) (hpr : ¬ ∃ q, Hz q ∧ h = smul p q) (hp : Prm p) (hd : (p : Int) ∣ h.nrm / 4) :
    ∃ t, Hz (gcdQ h (num p)) ∧ Hz t ∧ h = hm (gcdQ h (num p)) t ∧ (gcdQ h (num p)).nrm = 4 * (p : Int) ∧ (p : Int) * (t.nrm / 4) = h.nrm / 4 ∧ lq (gcdQ h (num p)) h = t ∧ canon (gcdQ h (num p)) = gcdQ h (num p) := by
  have hp2 := hp.1
  have m1 := hz_nrm hz
  obtain ⟨m, hm'⟩ := hd
  have zn' : h.nrm = 4 * ((p : Int) * m) := by omega
  have hcan := gcdQ_canon hz (hz_nm p)
  obtain ⟨hs, ⟨t, ht, et⟩, ⟨t', ht', et'⟩, _⟩ := gcdQ_spec hz (hz_nm p)
  obtain ⟨u, v, hu, hv, es⟩ := gcdQ_bez hz (hz_nm p)
  generalize gcdQ h (num p) = s at *
  generalize hpn : (p : Int) = n at *
  have n2 : 2 ≤ n := by omega
  -- p divides the norm of s
  have d1 : n ∣ s.nrm / 4 := by
    have hu4 := hz_nrm hu
    have hv4 := hz_nrm hv
    have a1 := hm_nrm hz hu
    obtain ⟨c, hc⟩ := dot_even (hz_hm hz hu) hv
    rw [num_hm] at es
    have e := nrm_add (hm h u) (smul n v)
    rw [← es, nrm_sm, smul_dot, hc] at e
    obtain ⟨u', hu'⟩ : ∃ u', u.nrm = 4 * u' := ⟨u.nrm / 4, by omega⟩
    obtain ⟨v', hv'⟩ : ∃ v', v.nrm = 4 * v' := ⟨v.nrm / 4, by omega⟩
    rw [hu', zn'] at a1
    rw [hv'] at e
    have a2 : 4 * (n * m) * (4 * u') = 16 * (n * (m * u')) := by grind
    have a3 : n * n * (4 * v') = 4 * (n * (n * v')) := by grind
    have a4 : 2 * (n * (2 * c)) = 4 * (n * c) := by grind
    rw [a3, a4] at e
    rw [a2] at a1
    refine ⟨m * u' + n * v' + c, ?_⟩
    have a5 : n * (m * u' + n * v' + c) = n * (m * u') + n * (n * v') + n * c := by grind
    rw [a5]; omega
  have s4 := hz_nrm hs
  have s0 := s.nrm_nonneg
  have k2 := hm_nrm hs ht'
  have en : (num n).nrm = 4 * (n * n) := nrm_num n
  rw [← et', en] at k2
  obtain ⟨s', hs'⟩ : ∃ s', s.nrm = 4 * s' := ⟨s.nrm / 4, by omega⟩
  obtain ⟨b', hb'⟩ : ∃ b', t'.nrm = 4 * b' := ⟨t'.nrm / 4, by have := hz_nrm ht'; omega⟩
  have ss : s.nrm / 4 = s' := by omega
  rw [ss] at d1
  rw [hs', hb'] at k2
  have f2 : 4 * s' * (4 * b') = 16 * (s' * b') := by grind
  rw [f2] at k2
  obtain ⟨c, hc⟩ := d1
  have e1 : n * (c * b') = n * n := by rw [← Int.mul_assoc, ← hc]; omega
  have e2 : c * b' = n := Int.eq_of_mul_eq_mul_left (by omega) e1
  have c0 : 0 < c := by
    apply Int.not_le.1; intro hle
    have b0 : 0 ≤ b' := by have := t'.nrm_nonneg; omega
    have : c * b' ≤ 0 := Int.mul_nonpos_of_nonpos_of_nonneg hle b0
    omega
  obtain ⟨C, rfl⟩ : ∃ C : Nat, c = C := ⟨c.toNat, by omega⟩
  have hC : C ∣ p := Int.natCast_dvd_natCast.1 (by rw [hpn]; exact ⟨b', e2.symm⟩)
  have c1 : C = 1 := by
    rcases prm_dvd hp hC with h1 | h1
    · exact h1
    · exfalso
      subst h1
      rw [hpn] at e2
      have hb1 : b' = 1 := by
        have : n * b' = n * 1 := by rw [e2, Int.mul_one]
        exact Int.eq_of_mul_eq_mul_left (by omega) this
      have hu4 : t'.nrm = 4 := by omega
      obtain ⟨i1, _⟩ := unit_inv ht' hu4
      have es2 : s = smul n t'.conj := by
        have : hm (num n) t'.conj = hm (hm s t') t'.conj := by rw [← et']
        rw [hm_assoc hs ht' (hz_conj ht'), i1, hm_one, num_hm] at this
        exact this.symm
      refine hpr ⟨hm t'.conj t, hz_hm (hz_conj ht') ht, ?_⟩
      rw [et, es2, ← num_hm, hm_assoc (hz_nm n) (hz_conj ht') ht, num_hm]
  subst c1
  have hs2 : s' = n := by rw [hc]; omega
  subst hs2
  have k1 := hm_nrm hs ht
  rw [← et] at k1
  obtain ⟨b, hb⟩ : ∃ b, t.nrm = 4 * b := ⟨t.nrm / 4, by have := hz_nrm ht; omega⟩
  rw [hs', hb, zn'] at k1
  have f1 : 4 * s' * (4 * b) = 16 * (s' * b) := by grind
  rw [f1] at k1
  have hl : lq s h = t := by
    have := lq_eq hs ht (by omega)
    rwa [← et] at this
  refine ⟨t, hs, ht, et, hs', ?_, hl, hcan⟩
  have : t.nrm / 4 = b := by omega
  rw [this]; omega
/-- One step of the factorization. -/
theorem fac_step {h : Qt} {p : Nat} (hz : Hz h) (hpr : Prim h) (hp : Prm p) (hd : (p : Int) ∣ h.nrm / 4) :
    ∃ t, Hz (gcdQ h (num p)) ∧ Hz t ∧ h = hm (gcdQ h (num p)) t ∧ (gcdQ h (num p)).nrm = 4 * (p : Int) ∧ (p : Int) * (t.nrm / 4) = h.nrm / 4 ∧ Prim t ∧ lq (gcdQ h (num p)) h = t ∧ canon (gcdQ h (num p)) = gcdQ h (num p) := by
  have hp2 := hp.1
  obtain ⟨t, h1, h2, h3, h4, h5, h6, h7⟩ := fac_step' hz (hpr p (by omega)) hp hd
  refine ⟨t, h1, h2, h3, h4, h5, ?_, h6, h7⟩
  intro k hk hq
  obtain ⟨q, hq, e⟩ := hq
  refine hpr k hk ⟨hm (gcdQ h (num p)) q, hz_hm h1 hq, ?_⟩
  have e2 : hm (gcdQ h (num p)) t = hm (gcdQ h (num p)) (smul k q) := by rw [← e]
  rw [← hm_smul k h1 hq, ← e2]; exact h3
end Qt
end Go.Proofs.Ythajaabgcbjfkaa
