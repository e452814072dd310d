/- Plain: the permutation of the ideals of a prime norm. -/
import Derived.Test.YthajaabgcbjfkaaM3
import Derived.Test.YthajaabgcbjfkaaY1
import Derived.Test.YthajaabgcbjfkaaN1
namespace Go.Proofs.Ythajaabgcbjfkaa
open Go.RowKit

theorem prm_gcd {p : Nat} (hp : Prm p) {n : Int} (h : ¬ n % (p : Int) = 0) : Int.gcd n (p : Int) = 1 := by
  have h2 := hp.1
  rw [Int.gcd_eq_natAbs_gcd_natAbs, Int.natAbs_natCast]
  have e1 : Nat.gcd n.natAbs p ∣ p := Nat.gcd_dvd_right ..
  have e2 : Nat.gcd n.natAbs p ∣ n.natAbs := Nat.gcd_dvd_left ..
  have e3 : 0 < Nat.gcd n.natAbs p := Nat.gcd_pos_of_pos_right _ (by omega)
  generalize Nat.gcd n.natAbs p = e at *
  by_cases h1 : e = 1
  · exact h1
  · exfalso
    obtain ⟨m, hm⟩ := e1
    by_cases hs : e * e ≤ p
    · exact hp.2 e (by omega) hs (by rw [hm]; exact Nat.mul_mod_right e m)
    · have hme : m < e := Nat.lt_of_mul_lt_mul_left (a := e) (by omega)
      by_cases m1 : m = 1
      · rw [m1, Nat.mul_one] at hm
        rw [← hm] at e2
        exact h (Int.emod_eq_zero_of_dvd (Int.ofNat_dvd_left.2 e2))
      · have m0 : m ≠ 0 := fun e0 => by rw [e0, Nat.mul_zero] at hm; omega
        exact hp.2 m (by omega) (by rw [hm]; exact Nat.mul_le_mul_right m (by omega)) (by rw [hm]; exact Nat.mul_mod_left e m)
theorem nodup_of_pw {l : List Qt} (h : l.Pairwise Qt.lt) : l.Nodup := List.Pairwise.imp (fun h => Qt.lt_ne h) h
theorem get_idx {l : List Qt} {q : Qt} (h : q ∈ l) : l[l.idxOf q]? = some q := by
  have hl := List.idxOf_lt_length_of_mem h
  rw [List.getElem?_eq_getElem hl, List.getElem_idxOf hl]
theorem idx_get {l : List Qt} (hn : l.Nodup) {i : Nat} {q : Qt} (h : l[i]? = some q) : l.idxOf q = i := by
  obtain ⟨hl, e⟩ := List.getElem?_eq_some_iff.1 h
  subst e
  exact List.Nodup.idxOf_getElem hn i hl
theorem idx_first {l : List Qt} {q : Qt} {i : Nat} (h : i < l.idxOf q) : l[i]? ≠ some q := fun e => by
  obtain ⟨hl, e⟩ := List.getElem?_eq_some_iff.1 e
  exact absurd (List.not_of_lt_findIdx (p := fun x => x == q) h) (by simp [e])
section
variable (p : Nat)
def permS (X : Qt) : List Qt := (ofNormC p).map (Qt.phi p X)
def permJ (X : Qt) : List Nat := (permS p X).map (ofNormC p).idxOf
/-- What is asked of the quaternion. -/
structure Pm (p : Nat) (X : Qt) : Prop where
  hz : Qt.Hz X
  n1 : 1 ≤ X.nrm / 4
  gc : Int.gcd (X.nrm / 4) (p : Int) = 1
variable {p}
theorem pm_mem (hp : 1 ≤ p) {X y : Qt} (h : Pm p X) (hy : y ∈ ofNormC p) : Qt.phi p X y ∈ ofNormC p := by
  obtain ⟨y1, y2, y3⟩ := (mem_ofNormC hp).1 hy
  have := Qt.phi_nrm (p := (p : Int)) h.hz y1 h.n1 (by omega) y2 h.gc
  exact (mem_ofNormC hp).2 ⟨Qt.hz_phi h.hz y1, this.1, this.2⟩
theorem ofNormC_nodup (p : Nat) : (ofNormC p).Nodup := nodup_of_pw (ofNormK_pw _ _)
theorem permS_len (X : Qt) : (permS p X).length = (ofNormC p).length := by simp [permS]
theorem permJ_len (X : Qt) : (permJ p X).length = (ofNormC p).length := by simp [permJ, permS]
theorem permS_get {X y s : Qt} {k : Nat} (h1 : (ofNormC p)[k]? = some y) (h2 : (permS p X)[k]? = some s) : s = Qt.phi p X y := by
  unfold permS at h2
  rw [List.getElem?_map, h1] at h2
  exact (Option.some.inj h2).symm
theorem permJ_get (hp : 1 ≤ p) {X s : Qt} (h : Pm p X) {k j : Nat} (h1 : (permS p X)[k]? = some s) (h2 : (permJ p X)[k]? = some j) : (ofNormC p)[j]? = some s ∧ ∀ i, i < j → (ofNormC p)[i]? ≠ some s := by
  unfold permJ at h2
  rw [List.getElem?_map, h1] at h2
  obtain rfl := Option.some.inj h2
  refine ⟨get_idx ?_, fun i hi => idx_first hi⟩
  have := List.mem_of_getElem? h1
  unfold permS at this
  obtain ⟨y, hy, rfl⟩ := List.mem_map.1 this
  exact pm_mem hp h hy
theorem permJ_at {X y : Qt} {k : Nat} (h1 : (ofNormC p)[k]? = some y) : (permJ p X)[k]? = some ((ofNormC p).idxOf (Qt.phi p X y)) := by
  unfold permJ permS
  rw [List.getElem?_map, List.getElem?_map, h1]; rfl
/-- The permutation of a product. -/
theorem permJ_mul (hp : 1 ≤ p) {X Y : Qt} (hX : Pm p X) (hY : Pm p Y) {k : Nat} (hk : k < (ofNormC p).length) :
    ∃ b a : Nat, (permJ p Y)[k]? = some b ∧ b < (ofNormC p).length ∧ (permJ p X)[b]? = some a ∧ (permJ p (Qt.hm X Y))[k]? = some a := by
  obtain ⟨y, hy⟩ : ∃ y, (ofNormC p)[k]? = some y := ⟨_, List.getElem?_eq_getElem hk⟩
  have hm := List.mem_of_getElem? hy
  have h1 := pm_mem hp hY hm
  have hi := get_idx h1
  refine ⟨_, _, permJ_at hy, List.idxOf_lt_length_of_mem h1, permJ_at hi, ?_⟩
  rw [permJ_at hy, Qt.phi_comp hX.hz hY.hz ((mem_ofNormC hp).1 hm).1]
/-- An integer moves nothing. -/
theorem permJ_num (hp : 1 ≤ p) {n : Int} (hg : Int.gcd n p = 1) {k : Nat} (hk : k < (ofNormC p).length) : (permJ p (Qt.num n))[k]? = some k := by
  obtain ⟨y, hy⟩ : ∃ y, (ofNormC p)[k]? = some y := ⟨_, List.getElem?_eq_getElem hk⟩
  obtain ⟨y1, y2, y3⟩ := (mem_ofNormC hp).1 (List.mem_of_getElem? hy)
  rw [permJ_at hy, Qt.phi_num y1 (by omega) y2 y3 hg, idx_get (ofNormC_nodup p) hy]
/-- Every place is reached. -/
theorem permJ_all (hp : 1 ≤ p) {X : Qt} (h : Pm p X) {k : Nat} (hk : k < (ofNormC p).length) : k ∈ permJ p X := by
  obtain ⟨y, hy⟩ : ∃ y, (ofNormC p)[k]? = some y := ⟨_, List.getElem?_eq_getElem hk⟩
  have hm := List.mem_of_getElem? hy
  obtain ⟨y1, y2, y3⟩ := (mem_ofNormC hp).1 hm
  have hc : Pm p X.conj := ⟨Qt.hz_conj h.hz, by rw [Qt.nrm_conj]; exact h.n1, by rw [Qt.nrm_conj]; exact h.gc⟩
  have h1 := pm_mem hp hc hm
  have := permJ_at (X := X) (get_idx h1)
  rw [Qt.phi_back h.hz y1 (by omega) y2 y3 h.gc, idx_get (ofNormC_nodup p) hy] at this
  exact List.mem_of_getElem? this
theorem permJ_lt (hp : 1 ≤ p) {X : Qt} (h : Pm p X) {k j : Nat} (h2 : (permJ p X)[k]? = some j) : j < (ofNormC p).length := by
  have hk : k < (permS p X).length := by
    have := (List.getElem?_eq_some_iff.1 h2).1
    rw [permJ_len] at this; rw [permS_len]; exact this
  exact (List.getElem?_eq_some_iff.1 (permJ_get hp h (List.getElem?_eq_getElem hk) h2).1).1
end
end Go.Proofs.Ythajaabgcbjfkaa
