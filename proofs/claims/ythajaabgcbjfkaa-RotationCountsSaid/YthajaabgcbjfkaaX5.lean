/- Plain: the factorization along a model, all of it. -/
import Derived.Test.YthajaabgcbjfkaaX2
import Derived.Test.YthajaabgcbjfkaaX3
namespace Go.Proofs.Ythajaabgcbjfkaa
open Go.RowKit

theorem prod_foldl (l : List Int) : ∀ c : Int, l.foldl (fun a p => a * p) c = c * prodZ l := by
  unfold prodZ
  induction l with
  | nil => intro c; simp
  | cons a l ih =>
    intro c
    simp only [List.foldl_cons]
    rw [ih (c * a), ih (1 * a), Int.one_mul, Int.mul_assoc]
theorem prodZ_cons (a : Int) (l : List Int) : prodZ (a :: l) = a * prodZ l := by
  show List.foldl (fun a p => a * p) 1 (a :: l) = a * prodZ l
  rw [List.foldl_cons, prod_foldl, Int.one_mul]
def facH (l : List Int) (X : Qt) : Nat → Qt
  | 0 => X
  | k + 1 => Qt.lq (gcdQ (facH l X k) (Qt.num (l.getD k 0))) (facH l X k)
def facD (l : List Int) (X : Qt) (k : Nat) : Qt := gcdQ (facH l X k) (Qt.num (l.getD k 0))
theorem facH_succ (l : List Int) (X : Qt) (k : Nat) : facH l X (k + 1) = Qt.lq (facD l X k) (facH l X k) := rfl
structure Fac (l : List Int) (X : Qt) (k : Nat) : Prop where
  hz : Qt.Hz (facH l X k)
  pr : Qt.Prim (facH l X k)
  nr : (facH l X k).nrm / 4 = prodZ (l.drop k)
structure FacS (l : List Int) (X : Qt) (k : Nat) (q : Int) : Prop where
  dz : Qt.Hz (facD l X k)
  eq : facH l X k = Qt.hm (facD l X k) (facH l X (k + 1))
  dn : (facD l X k).nrm = 4 * q
  cn : canon (facD l X k) = facD l X k
theorem fac_one {X : Qt} {l : List Int} (hl : ∀ p ∈ l, okP p = true) {k : Nat} {q : Int} (hq : l[k]? = some q) (h : Fac l X k) : Fac l X (k + 1) ∧ FacS l X k q := by
  obtain ⟨hk, e⟩ := List.getElem?_eq_some_iff.1 hq
  have hm := hl q (List.mem_of_getElem? hq)
  obtain ⟨q2, q3⟩ := okP_two hm
  have hp := (okP_iff.1 hm).2
  obtain ⟨p, rfl⟩ : ∃ p : Nat, q = p := ⟨q.toNat, by omega⟩
  rw [Int.toNat_natCast] at hp
  have hd : prodZ (l.drop k) = (p : Int) * prodZ (l.drop (k + 1)) := by
    rw [List.drop_eq_getElem_cons hk, e, prodZ_cons]
  have hg : l.getD k 0 = (p : Int) := by rw [List.getD_eq_getElem?_getD, hq]; rfl
  obtain ⟨t, h1, h2, h3, h4, h5, h6, h7, h8⟩ := Qt.fac_step h.hz h.pr hp ⟨prodZ (l.drop (k + 1)), by rw [h.nr, hd]⟩
  have eD : facD l X k = gcdQ (facH l X k) (Qt.num p) := by unfold facD; rw [hg]
  have eH : facH l X (k + 1) = t := by rw [facH_succ, eD]; exact h7
  refine ⟨⟨by rw [eH]; exact h2, by rw [eH]; exact h6, ?_⟩, ⟨by rw [eD]; exact h1, by rw [eD, eH]; exact h3, by rw [eD]; exact h4, by rw [eD]; exact h8⟩⟩
  rw [eH]
  rw [h.nr, hd] at h5
  exact Int.eq_of_mul_eq_mul_left (by omega) h5
theorem fac_all {X : Qt} {l : List Int} (hz : Qt.Hz X) (hp : Qt.Prim X) (hl : ∀ p ∈ l, okP p = true) (hprod : prodZ l = X.nrm / 4) : ∀ k, k ≤ l.length → Fac l X k
  | 0, _ => ⟨hz, hp, by rw [List.drop_zero]; exact hprod.symm⟩
  | k + 1, h => (fac_one hl (List.getElem?_eq_getElem (show k < l.length by omega)) (fac_all hz hp hl hprod k (by omega))).1
/-- The list that Factor returns, for a model of n + 1 numbers. -/
def facL (l : List Int) (X : Qt) (n : Nat) : List Qt := (List.range n).map (facD l X) ++ [facH l X n]
theorem facL_len (l : List Int) (X : Qt) (n : Nat) : (facL l X n).length = n + 1 := by simp [facL]
theorem facL_lo {l : List Int} {X : Qt} {n k : Nat} (h : k < n) : (facL l X n)[k]? = some (facD l X k) := by
  unfold facL
  rw [List.getElem?_append_left (by simpa using h), List.getElem?_map, List.getElem?_range h]; rfl
theorem facL_hi (l : List Int) (X : Qt) (n : Nat) : (facL l X n)[n]? = some (facH l X n) := by
  unfold facL
  rw [List.getElem?_append_right (by simp)]; simp
/-- Products of the first factors. -/
def facP (l : List Int) (X : Qt) (n : Nat) : Nat → Qt
  | 0 => (facL l X n).getD 0 ⟨0, 0, 0, 0⟩
  | k + 1 => Qt.hm (facP l X n k) ((facL l X n).getD (k + 1) ⟨0, 0, 0, 0⟩)
structure FacP (l : List Int) (X : Qt) (n k : Nat) : Prop where
  hz : Qt.Hz (facP l X n k)
  eq : k < n → Qt.hm (facP l X n k) (facH l X (k + 1)) = X
  en : k = n → facP l X n k = X
  nr : (facP l X n k).nrm ≤ X.nrm
theorem nrm_hm_le {a b : Qt} (ha : Qt.Hz a) (hb : Qt.Hz b) (h : 4 ≤ b.nrm) : a.nrm ≤ (Qt.hm a b).nrm := by
  have := Qt.hm_nrm ha hb
  have h2 := Int.mul_le_mul_of_nonneg_left h a.nrm_nonneg
  omega
theorem prodZ_pos {l : List Int} (hl : ∀ p ∈ l, okP p = true) : 1 ≤ prodZ l := by
  induction l with
  | nil => exact Int.le_refl 1
  | cons a l ih =>
    rw [prodZ_cons]
    have h1 := okP_two (hl a (List.mem_cons_self ..))
    have h2 := ih (fun p hp => hl p (List.mem_cons_of_mem _ hp))
    have := Int.mul_le_mul h1.1 h2 (by omega) (by omega)
    omega
theorem fac_pos {X : Qt} {l : List Int} (hl : ∀ p ∈ l, okP p = true) {k : Nat} (h : Fac l X k) : 4 ≤ (facH l X k).nrm := by
  have h1 : 1 ≤ prodZ (l.drop k) := prodZ_pos (fun p hp => hl p (List.mem_of_mem_drop hp))
  rw [← h.nr] at h1
  omega
theorem facP_all {X : Qt} {l : List Int} (hz : Qt.Hz X) (hp : Qt.Prim X) (hl : ∀ p ∈ l, okP p = true) (hprod : prodZ l = X.nrm / 4) {n : Nat} (hn : l.length = n + 1) : ∀ k, k ≤ n → FacP l X n k := by
  have A := fac_all hz hp hl hprod
  have S : ∀ k, k < n → FacS l X k (l.getD k 0) := fun k hk => by
    have hq := List.getElem?_eq_getElem (show k < l.length by omega)
    have := (fac_one hl hq (A k (by omega))).2
    rw [List.getD_eq_getElem?_getD, hq]; exact this
  intro k
  induction k with
  | zero =>
    intro _
    by_cases h0 : n = 0
    · subst h0
      have e : facP l X 0 0 = X := by simp [facP, facL, facH]
      exact ⟨by rw [e]; exact hz, fun h => by omega, fun _ => e, by rw [e]; exact Int.le_refl _⟩
    · have e : facP l X n 0 = facD l X 0 := by
        show (facL l X n).getD 0 _ = _
        rw [List.getD_eq_getElem?_getD, facL_lo (by omega)]; rfl
      have s := S 0 (by omega)
      have he : Qt.hm (facD l X 0) (facH l X (0 + 1)) = X := s.eq.symm
      refine ⟨by rw [e]; exact s.dz, fun _ => by rw [e]; exact he, fun h => by omega, ?_⟩
      rw [e]
      have := nrm_hm_le s.dz (A 1 (by omega)).hz (fac_pos hl (A 1 (by omega)))
      rw [he] at this; exact this
  | succ k ih =>
    intro hk
    have i := ih (by omega)
    have hk1 := i.eq (by omega)
    by_cases hkn : k + 1 = n
    · have e : facP l X n (k + 1) = X := by
        subst hkn
        show Qt.hm (facP l X (k + 1) k) ((facL l X (k + 1)).getD (k + 1) _) = X
        rw [List.getD_eq_getElem?_getD, facL_hi]; exact hk1
      exact ⟨by rw [e]; exact hz, fun h => by omega, fun _ => e, by rw [e]; exact Int.le_refl _⟩
    · have s := S (k + 1) (by omega)
      have e : facP l X n (k + 1) = Qt.hm (facP l X n k) (facD l X (k + 1)) := by
        show Qt.hm (facP l X n k) ((facL l X n).getD (k + 1) _) = _
        rw [List.getD_eq_getElem?_getD, facL_lo (by omega)]; rfl
      have h2 := (A (k + 2) (by omega))
      have he : Qt.hm (facP l X n (k + 1)) (facH l X (k + 1 + 1)) = X := by
        rw [e, Qt.hm_assoc i.hz s.dz h2.hz, ← s.eq]; exact hk1
      have z : Qt.Hz (facP l X n (k + 1)) := by rw [e]; exact Qt.hz_hm i.hz s.dz
      refine ⟨z, fun _ => he, fun h => by omega, ?_⟩
      have := nrm_hm_le z h2.hz (fac_pos hl h2)
      rw [he] at this; exact this
end Go.Proofs.Ythajaabgcbjfkaa
