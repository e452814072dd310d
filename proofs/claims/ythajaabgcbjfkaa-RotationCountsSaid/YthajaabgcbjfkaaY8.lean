/- What Permutation returns. -/
import Derived.Test.YthajaabgcbjfkaaY4
import Derived.Test.YthajaabgcbjfkaaY5
import Derived.Test.YthajaabgcbjfkaaR4
namespace Go.Proofs.Ythajaabgcbjfkaa
open Go.RowKit

theorem exch_phi {X Y : Qt} {p : Int} (hX : Qt.Hz X) (hY : Qt.Hz Y) (bX : X.nrm ≤ 4000000) (hp : 1 ≤ p) (bp : p ≤ 500) (hn : Y.nrm = 4 * p) (h1 : 1 ≤ X.nrm / 4) (hl : X.nrm / 4 * p ≤ 1000000) (hg : Int.gcd (X.nrm / 4) p = 1) :
    ∃ t : Qt, (∀ w, Calls Try.prog 82 #[.agg #[.int .i64 X.w, .int .i64 X.x, .int .i64 X.y, .int .i64 X.z], .agg #[.int .i64 Y.w, .int .i64 Y.x, .int .i64 Y.y, .int .i64 Y.z]] w fun e w' => e = .returned (.tuple #[.agg #[.int .i64 (Qt.phi p X Y).w, .int .i64 (Qt.phi p X Y).x, .int .i64 (Qt.phi p X Y).y, .int .i64 (Qt.phi p X Y).z], .agg #[.int .i64 t.w, .int .i64 t.x, .int .i64 t.y, .int .i64 t.z]]) ∧ Below w.heap.size w w') ∧
      (∀ w, Calls Try.prog 39 #[.agg #[.int .i64 X.w, .int .i64 X.x, .int .i64 X.y, .int .i64 X.z], .agg #[.int .i64 Y.w, .int .i64 Y.x, .int .i64 Y.y, .int .i64 Y.z]] w fun e w' => e = .returned (.tuple #[.agg #[.int .i64 (Qt.phi p X Y).w, .int .i64 (Qt.phi p X Y).x, .int .i64 (Qt.phi p X Y).y, .int .i64 (Qt.phi p X Y).z], .agg #[.int .i64 t.w, .int .i64 t.x, .int .i64 t.y, .int .i64 t.z]]) ∧ Below w.heap.size w w') := by
  have e4 : Y.nrm / 4 = p := by omega
  have bY : Y.nrm ≤ 4000000 := by omega
  obtain ⟨hs, t, ht, e1, e2, e3⟩ := Qt.exch_plain hX hY h1 (by omega) (by rw [e4]; exact hg)
  have hZ := Qt.hz_hm hX hY
  have zn := Qt.hm_nrm hX hY
  have m1 := Qt.hz_nrm hX
  have zb : (Qt.hm X Y).nrm ≤ 4000000 := by
    have f : X.nrm * Y.nrm = 16 * (X.nrm / 4 * p) := by
      have f1 : X.nrm = 4 * (X.nrm / 4) := by omega
      generalize X.nrm / 4 = a at *
      rw [f1, hn]; grind
    omega
  have nb : Qt.nrm ⟨2 * (Y.nrm / 4), 0, 0, 0⟩ ≤ 4000000000000 := by
    rw [Qt.nrm_num, e4]
    have := Int.mul_le_mul bp bp (by omega) (by omega)
    omega
  have cc := common_hz (Qt.hm X Y) ⟨2 * (Y.nrm / 4), 0, 0, 0⟩ hZ (Qt.hz_num _) (by omega) nb
  have rc := rgcd_in (Qt.hm X Y) ⟨2 * (Y.nrm / 4), 0, 0, 0⟩ hZ (Qt.hz_num _) (by omega) nb
  have hphi : Qt.phi p X Y = gcdQ (Qt.hm X Y) ⟨2 * (Y.nrm / 4), 0, 0, 0⟩ := by rw [e4]; rfl
  rw [hphi]
  generalize gcdQ (Qt.hm X Y) ⟨2 * (Y.nrm / 4), 0, 0, 0⟩ = s at *
  have xy : (X.mul Y).InR := Qt.inR_of_nrm (by rw [Qt.nrm_mul]; omega)
  have ct := htimes_in X Y xy
  have rt := rtimes_in X Y xy
  rw [Qt.hm_eq] at ct rt
  have sz : (s.conj.mul (Qt.hm X Y)).InR := Qt.inR_of_nrm (by
    rw [Qt.nrm_mul, Qt.nrm_conj, e2]
    have := Int.mul_le_mul bY zb (Qt.nrm_nonneg _) (by omega)
    omega)
  have cb := before_in (Qt.hm X Y) s (Qt.inR_of_nrm (by omega)) (by omega) (by omega) sz
  have bp := Qt.before_plain hs ht (by omega)
  rw [← e1] at bp
  rw [bp] at cb
  have rl := rleft_ok s t hs ht (by omega) (by omega) (by omega)
  rw [← e1] at rl
  exact ⟨t, exch_walk X Y _ ⟨2 * (Y.nrm / 4), 0, 0, 0⟩ s t _ ct (hnorm_any Y (by omega)) (number_in _ (by omega) (by omega)) cc cb,
    rexch_walk X Y _ ⟨2 * (Y.nrm / 4), 0, 0, 0⟩ s t _ rt (rnorm_in Y (by omega)) (rwhole_in _ (by omega) (by omega)) rc rl⟩
theorem pm_of {X : Qt} {p : Nat} (hX : Qt.Hz X) (hp : Prm p) (hd : ¬ X.nrm / 4 % (p : Int) = 0) : Pm p X := by
  refine ⟨hX, ?_, prm_gcd hp hd⟩
  have := X.nrm_nonneg
  apply Int.not_lt.1; intro hc
  have h0 : X.nrm / 4 = 0 := by omega
  rw [h0] at hd
  exact hd (by simp)
theorem perm_both {X y : Qt} {p : Nat} (bX : X.nrm ≤ 4000000) (hp : Prm p) (h5 : p ≤ 500) (h : Pm p X) (hl : ¬ 1000000 < (p : Int) * (X.nrm / 4)) (hy : y ∈ ofNormC p) :
    ∃ t : Qt, (∀ w, Calls Try.prog 82 #[.agg #[.int .i64 X.w, .int .i64 X.x, .int .i64 X.y, .int .i64 X.z], .agg #[.int .i64 y.w, .int .i64 y.x, .int .i64 y.y, .int .i64 y.z]] w fun e w' => e = .returned (.tuple #[.agg #[.int .i64 (Qt.phi p X y).w, .int .i64 (Qt.phi p X y).x, .int .i64 (Qt.phi p X y).y, .int .i64 (Qt.phi p X y).z], .agg #[.int .i64 t.w, .int .i64 t.x, .int .i64 t.y, .int .i64 t.z]]) ∧ Below w.heap.size w w') ∧
      (∀ w, Calls Try.prog 39 #[.agg #[.int .i64 X.w, .int .i64 X.x, .int .i64 X.y, .int .i64 X.z], .agg #[.int .i64 y.w, .int .i64 y.x, .int .i64 y.y, .int .i64 y.z]] w fun e w' => e = .returned (.tuple #[.agg #[.int .i64 (Qt.phi p X y).w, .int .i64 (Qt.phi p X y).x, .int .i64 (Qt.phi p X y).y, .int .i64 (Qt.phi p X y).z], .agg #[.int .i64 t.w, .int .i64 t.x, .int .i64 t.y, .int .i64 t.z]]) ∧ Below w.heap.size w w') := by
  have h2 := hp.1
  obtain ⟨y1, y2, _⟩ := (mem_ofNormC (n := p) (by omega)).1 hy
  exact exch_phi h.hz y1 bX (by omega) (by omega) y2 h.n1 (by rw [Int.mul_comm]; omega) h.gc
theorem pperm_zero (x : Qd) (p : Int) (hx : x.oerr = 0) (h0 : x.rdv.nrm / 4 = 0) (w : World) :
    Calls Try.prog 55 #[.agg #[.int .i64 x.w, .int .i64 x.x, .int .i64 x.y, .int .i64 x.z, .int .i64 x.d], .int .i64 p] w fun e w' => e = .returned (.tuple #[.slice none 0 0, .int .i64 10]) ∧ Below w.heap.size w w' := by
  obtain ⟨_, _, _, x4⟩ := Opn.of hx
  exact perm_zero x x.rdv _ (fun W m hm => open_ok1 x W (by rw [oerrL_one]; exact hx) hm) (hnorm_any x.rdv (by omega)) p h0 w
theorem pperm_prime (x : Qd) (p : Int) (hx : x.oerr = 0) (h0 : ¬ x.rdv.nrm / 4 = 0) (h : 500 < p ∨ ¬ Prm p.toNat ∨ x.rdv.nrm / 4 % p = 0) (w : World) :
    Calls Try.prog 55 #[.agg #[.int .i64 x.w, .int .i64 x.x, .int .i64 x.y, .int .i64 x.z, .int .i64 x.d], .int .i64 p] w fun e w' => e = .returned (.tuple #[.slice none 0 0, .int .i64 11]) ∧ Below w.heap.size w w' := by
  obtain ⟨_, _, _, x4⟩ := Opn.of hx
  have n0 := x.rdv.nrm_nonneg
  have ho := fun W m hm => open_ok1 x W (by rw [oerrL_one]; exact hx) (m := m) hm
  have cn := hnorm_any x.rdv (by omega)
  by_cases h5 : 500 < p
  · exact perm_big x x.rdv _ ho cn p h0 h5 w
  · have cp := isPrime_all p (by omega)
    by_cases hp : Prm p.toNat
    · have h2 := hp.1
      rw [(four_pr (by omega)).2 hp] at cp
      have hd : x.rdv.nrm / 4 % p = 0 := by
        rcases h with h | h | h
        · exact absurd h h5
        · exact absurd hp h
        · exact h
      exact perm_div x x.rdv _ ho cn ⟨by omega, by omega⟩ p h0 ⟨by omega, by omega⟩ cp hd w
    · rw [show mrfour p.toNat = false from Bool.eq_false_iff.2 fun hc => hp ((four_pr (by omega)).1 hc)] at cp
      exact perm_comp x x.rdv _ ho cn p h0 h5 cp w
theorem pperm_large (x : Qd) (p : Nat) (hx : x.oerr = 0) (hp : Prm p) (h5 : p ≤ 500) (hd : ¬ x.rdv.nrm / 4 % (p : Int) = 0) (hl : 1000000 < (p : Int) * (x.rdv.nrm / 4)) (w : World) :
    Calls Try.prog 55 #[.agg #[.int .i64 x.w, .int .i64 x.x, .int .i64 x.y, .int .i64 x.z, .int .i64 x.d], .int .i64 ((p : Int))] w fun e w' => e = .returned (.tuple #[.slice none 0 0, .int .i64 8]) ∧ Below w.heap.size w w' := by
  obtain ⟨_, _, x3, x4⟩ := Opn.of hx
  have h2 := hp.1
  have n1 := (pm_of x3 hp hd).n1
  have cp := isPrime_in p (by omega)
  rw [(four_pr (by omega)).2 hp] at cp
  exact perm_large x x.rdv _ (fun W m hm => open_ok1 x W (by rw [oerrL_one]; exact hx) hm) (hnorm_any x.rdv (by omega)) ⟨by omega, by omega⟩ p (by omega) ⟨by omega, by omega⟩ cp hd hl w
theorem pperm_ok (x : Qd) (p : Nat) (hx : x.oerr = 0) (hp : Prm p) (h5 : p ≤ 500) (hd : ¬ x.rdv.nrm / 4 % (p : Int) = 0) (hl : ¬ 1000000 < (p : Int) * (x.rdv.nrm / 4)) (hne : ofNormC p ≠ []) (w : World) :
    Calls Try.prog 55 #[.agg #[.int .i64 x.w, .int .i64 x.x, .int .i64 x.y, .int .i64 x.z, .int .i64 x.d], .int .i64 ((p : Int))] w fun e w' => ∃ v, e = .returned (.tuple #[v, .int .i64 0]) ∧ OwnZ w' w.heap.size v ((permJ p x.rdv).map fun (j : Nat) => (j : Int)) ∧ Below w.heap.size w w' := by
  obtain ⟨_, _, x3, x4⟩ := Opn.of hx
  have h2 := hp.1
  have hm := pm_of x3 hp hd
  have n1 := hm.n1
  have cp := isPrime_in p (by omega)
  rw [(four_pr (by omega)).2 hp] at cp
  exact perm_ok x x.rdv _ (fun W m hm => open_ok1 x W (by rw [oerrL_one]; exact hx) hm) (hnorm_any x.rdv (by omega)) ⟨by omega, by omega⟩ p (by omega) ⟨by omega, by omega⟩ cp hd hl
    (ofNormC p) (permS p x.rdv) (permJ p x.rdv) (ofNormC_len h5) hne (permS_len _) (permJ_len _) (ofNorm_any p (by omega) h5)
    (fun k y s h1 h3 => by
      rw [permS_get h1 h3]
      obtain ⟨t, ht, _⟩ := perm_both x4 hp h5 hm hl (List.mem_of_getElem? h1)
      exact ⟨t, ht⟩)
    (fun k s j h1 h3 => permJ_get (by omega) hm h1 h3) w
end Go.Proofs.Ythajaabgcbjfkaa
