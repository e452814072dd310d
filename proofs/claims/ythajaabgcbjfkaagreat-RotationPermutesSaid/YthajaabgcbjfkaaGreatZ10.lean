/- The law RotationPermutes. -/
import Derived.Test.YthajaabgcbjfkaaGreatV4
import Derived.Test.YthajaabgcbjfkaaGreatY8
namespace Go.Proofs.YthajaabgcbjfkaaGreat
open Go.RowKit

set_option maxHeartbeats 1000000 in
theorem rprime_out (n : Int) (h : 1000000000 < n) (w : World) :
    Calls Tryz.prog 5 #[.int .i64 n] w fun e w' => e = .returned (.bool false) ∧ Below w.heap.size w w' := by
  go_enter Tryz.func5, Tryz.ntmps5
  go_wp2
  go_ret
  exact ⟨rfl, by (repeat (first | with_reducible assumption | with_reducible exact Below.refl _ _ | with_reducible refine Below.drewN ?_ _ | with_reducible refine Below.drew ?_ | with_reducible refine Below.alloc ?_ (by first | omega | (simp; done) | (simp; omega)) _ | with_reducible refine Below.setCell ?_ (by first | omega | (simp; done) | (simp; omega)) _ | with_reducible refine below_more _ _ ?_ (by first | omega | (simp; done) | (simp; omega))))⟩
theorem lens13 : (List.range 14).all (fun p => !prB p || decide (1 ≤ (ofNormE p).length)) = true := by decide +kernel
theorem len13 {p : Nat} (hp : Prm p) (h : p ≤ 13) : 1 ≤ (ofNormC p).length := by
  have := List.all_eq_true.1 lens13 p (List.mem_range.2 (by omega))
  rw [(prB_eq (by omega)).2 hp] at this
  rw [ofNormE_eq]
  simpa using this
theorem zero_nrm {q : Qt} (h : q.nrm / 4 = 0) (hz : Qt.Hz q) : q.eqb ⟨0, 0, 0, 0⟩ = true := by
  rw [← Bool.not_eq_false]; intro hc
  have := nrm_pos_of hc
  have := Qt.hz_nrm hz
  omega
theorem nrm_nz {q : Qt} (h : ¬ q.nrm / 4 = 0) : q.eqb ⟨0, 0, 0, 0⟩ = false := by
  rw [← Bool.not_eq_true]; intro hc
  rw [Qt.eq_zero_of_eqb hc] at h
  exact h (by decide)
theorem law_perms (x : Qd) (p : Int) (_ : -9223372036854775808 ≤ p) (_ : p ≤ 9223372036854775807) (w : World) :
    Calls Tryz.prog 3 #[.agg #[.int .i64 x.w, .int .i64 x.x, .int .i64 x.y, .int .i64 x.z, .int .i64 x.d], .int .i64 p] w fun e w' => e = .returned (.bool true) ∧ Below w.heap.size w w' := by
  obtain ⟨c, hc, pr⟩ : ∃ c : Bool, (p ≤ 500 → (c = true ↔ Prm p.toNat)) ∧ ∀ w, Calls Tryz.prog 5 #[.int .i64 p] w fun e w' => e = .returned (.bool c) ∧ Below w.heap.size w w' := by
    by_cases h9 : 1000000000 < p
    · exact ⟨false, fun h => by omega, rprime_out p h9⟩
    · by_cases hp : Prm p.toNat
      · exact ⟨true, fun _ => by simp [hp], rprime_in p (by omega) true (by simp [hp])⟩
      · exact ⟨false, fun _ => by simp [hp], rprime_in p (by omega) false (by simp [hp])⟩
  by_cases hmid : 13 < p ∧ p ≤ 500 ∧ c = true
  · obtain ⟨h1, h2, rfl⟩ := hmid
    exact pm_mid x p h1 h2 pr w
  have hg : p ≤ 13 ∨ 500 < p ∨ (13 < p ∧ p ≤ 500 ∧ c = false) := by
    by_cases h1 : p ≤ 13
    · exact .inl h1
    by_cases h2 : 500 < p
    · exact .inr (.inl h2)
    · refine .inr (.inr ⟨by omega, by omega, ?_⟩)
      rw [← Bool.not_eq_true]; intro h3
      exact hmid ⟨by omega, by omega, h3⟩
  have ea := rerr_any x
  by_cases hx : x.oerr = 0
  rotate_left
  · exact pm_err x p c hg _ hx _ _ pr (pperm_err x p hx) ea (rof_any x) w
  rw [hx] at ea
  obtain ⟨x1, x2, x3, x4⟩ := Opn.of hx
  have ox := rof_ok x x1 x2
  have zx := rzero_any x.rdv
  have nx := rnorm_in x.rdv (by omega)
  have n0 := x.rdv.nrm_nonneg
  have bN : 0 ≤ x.rdv.nrm / 4 ∧ x.rdv.nrm / 4 ≤ 1000000 := by omega
  by_cases h0 : x.rdv.nrm / 4 = 0
  · rw [zero_nrm h0 x3] at zx
    exact pm_zero x p c hg _ pr (pperm_zero x p hx h0) ea ox zx w
  rw [nrm_nz h0] at zx
  by_cases h5 : 500 < p
  · exact pm_big x p c hg _ h5 pr (pperm_prime x p hx h0 (.inl h5)) ea ox zx w
  have hc' := hc (by omega)
  by_cases hp : Prm p.toNat
  rotate_left
  · exact pm_comp x p c hg _ (by omega) (by rw [← Bool.not_eq_true, hc']; exact hp) pr (pperm_prime x p hx h0 (.inr (.inl hp))) ea ox zx w
  have ht := hc'.2 hp
  have h2 := hp.1
  have h13 : p ≤ 13 := by
    apply Int.not_lt.1; intro hlt
    exact hmid ⟨hlt, by omega, ht⟩
  by_cases hd : x.rdv.nrm / 4 % p = 0
  · exact pm_div x p c (.inl h13) _ _ bN (by omega) (by omega) ht hd pr (pperm_prime x p hx h0 (.inr (.inr hd))) ea ox zx nx w
  subst ht
  obtain ⟨P, rfl⟩ : ∃ P : Nat, p = P := ⟨p.toNat, by omega⟩
  rw [Int.toNat_natCast] at hp
  by_cases hl : 1000000 < (P : Int) * (x.rdv.nrm / 4)
  · exact pm_large x P _ _ bN (by omega) h13 hd hl pr (pperm_large x P hx hp (by omega) hd hl) ea ox zx nx w
  have hm := pm_of x3 hp hd
  have l1 := len13 hp (by omega)
  have hne : ofNormC P ≠ [] := fun e => by rw [e] at l1; simp at l1
  have hall : allH P ≠ [] := fun e => by
    obtain ⟨y, hy⟩ := List.exists_mem_of_ne_nil _ hne
    obtain ⟨y1, y2, _⟩ := (mem_ofNormC (by omega)).1 hy
    have := mem_allH.2 ⟨y1, y2⟩
    rw [e] at this; simp at this
  have pp : ∀ w, Calls Tryz.prog 6 #[.agg #[.int .i64 x.w, .int .i64 x.x, .int .i64 x.y, .int .i64 x.z, .int .i64 x.d], .int .i64 ((P : Int))] w fun e w' => ∃ g c, e = .returned (.tuple #[.slice (some ⟨g, 0, none⟩) (ofNormC P).length c, .int .i64 0]) ∧ ZRow w' g ((permJ P x.rdv).map fun (j : Nat) => (j : Int)) ∧ Below w.heap.size w w' := fun w => (pperm_ok x P hx hp (by omega) hd hl hne w).mono (fun e w' h => by
    obtain ⟨v, rfl, h, hb⟩ := h
    obtain ⟨g, c, e, hr⟩ := h.row (by rw [List.length_map, permJ_len]; omega)
    rw [List.length_map, permJ_len] at e
    subst e
    exact ⟨g, c, rfl, hr, hb⟩)
  have rp : ∀ w, Calls Tryz.prog 12 #[.agg #[.int .i64 x.rdv.w, .int .i64 x.rdv.x, .int .i64 x.rdv.y, .int .i64 x.rdv.z], .int .i64 ((P : Int))] w fun e w' => ∃ g c, e = .returned (.slice (some ⟨g, 0, none⟩) (ofNormC P).length c) ∧ ZRow w' g ((permJ P x.rdv).map fun (j : Nat) => (j : Int)) ∧ Below w.heap.size w w' := fun w => (rperm_walk x.rdv P (ofNormC P) (permS P x.rdv) (permJ P x.rdv) (ofNormC_len (by omega)) hne (permS_len _) (permJ_len _) (rofNorm_any P (by omega) (by omega) hall)
    (fun k y s h1 h3 => by
      rw [permS_get h1 h3]
      obtain ⟨t, _, ht⟩ := perm_both x4 hp (by omega) hm hl (List.mem_of_getElem? h1)
      exact ⟨t, ht⟩)
    (fun k s j h1 h3 => by
      obtain ⟨a, b⟩ := permJ_get (by omega) hm h1 h3
      refine ⟨a, fun i hi => ?_⟩
      rw [← idx_get (ofNormC_nodup P) hi, idx_get (ofNormC_nodup P) a]) w).mono (fun e w' h => by
    obtain ⟨v, rfl, h, hb⟩ := h
    obtain ⟨g, c, e, hr⟩ := h.row (by rw [List.length_map, permJ_len]; omega)
    rw [List.length_map, permJ_len] at e
    subst e
    exact ⟨g, c, rfl, hr, hb⟩)
  exact pm_ok x P _ _ bN (by omega) h13 hd hl _ _ (permJ_len _) (ofNormC_len (by omega)) (fun k hk => permJ_all (by omega) hm hk) pr pp ea ox zx nx rp w
end Go.Proofs.YthajaabgcbjfkaaGreat
