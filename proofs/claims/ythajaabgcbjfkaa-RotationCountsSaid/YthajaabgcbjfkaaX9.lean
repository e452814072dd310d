/- The law RotationFactors. -/
import Derived.Test.YthajaabgcbjfkaaX8
import Derived.Test.YthajaabgcbjfkaaY8
namespace Go.Proofs.Ythajaabgcbjfkaa
open Go.RowKit
attribute [local go_sem ↓] Go.wp_at_zero Go.wp_at_succ

set_option maxRecDepth 10000 in
set_option maxHeartbeats 2000000 in
theorem pfac_err (x : Qd) (v : Value) (d : Int) (hd : d ≠ 0) (Z : Qt) (w : World)
    (cm : ∀ W, Below w.heap.size w W → Calls Try.prog 105 #[.agg #[.int .i64 x.w, .int .i64 x.x, .int .i64 x.y, .int .i64 x.z, .int .i64 x.d], v] W fun e w' => e = .returned (.tuple #[.agg #[.int .i64 Z.w, .int .i64 Z.x, .int .i64 Z.y, .int .i64 Z.z], .int .i64 d]) ∧ Below W.heap.size W w') :
    Calls Try.prog 58 #[.agg #[.int .i64 x.w, .int .i64 x.x, .int .i64 x.y, .int .i64 x.z, .int .i64 x.d], v] w fun e w' => e = .returned (.tuple #[.slice none 0 0, .int .i64 d]) ∧ Below w.heap.size w w' := by
  have CM : Hid _ := cm
  clear cm
  have hd1 : (d != 0) = true := by simpa using hd
  clear hd
  go_enter Try.func58, Try.ntmps58
  go_wp2_with (first | (go_at_call 105; (with_reducible refine (CM.out _ ?_).mono ?_); (focus ((repeat (first | with_reducible assumption | with_reducible exact Below.refl _ _ | with_reducible refine Below.drewN ?_ _ | with_reducible refine Below.drew ?_ | with_reducible refine Below.alloc ?_ (by first | omega | (simp; done) | (simp; omega)) _ | with_reducible refine Below.setCell ?_ (by first | omega | (simp; done) | (simp; omega)) _ | with_reducible refine below_more _ _ ?_ (by first | omega | (simp; done) | (simp; omega)))))); rintro e w1 ⟨rfl, hb1⟩; obtain ⟨g1, rfl⟩ := more_of_below hb1; clear hb1))
  refine bodyPost_ret (v := .tuple #[.slice none 0 0, .int .i64 d]) (by simp [results, Try.results58, go_sem]) rfl ⟨rfl, by (repeat (first | with_reducible assumption | with_reducible exact Below.refl _ _ | with_reducible refine Below.drewN ?_ _ | with_reducible refine Below.drew ?_ | with_reducible refine Below.alloc ?_ (by first | omega | (simp; done) | (simp; omega)) _ | with_reducible refine Below.setCell ?_ (by first | omega | (simp; done) | (simp; omega)) _ | with_reducible refine below_more _ _ ?_ (by first | omega | (simp; done) | (simp; omega))))⟩
set_option maxRecDepth 10000 in
set_option maxHeartbeats 2000000 in
theorem pfac_form (x : Qd) (v : Value) (X : Qt) (c : Int) (hc : c ≠ 1) (w : World)
    (cm : ∀ W, Below w.heap.size w W → Calls Try.prog 105 #[.agg #[.int .i64 x.w, .int .i64 x.x, .int .i64 x.y, .int .i64 x.z, .int .i64 x.d], v] W fun e w' => e = .returned (.tuple #[.agg #[.int .i64 X.w, .int .i64 X.x, .int .i64 X.y, .int .i64 X.z], .int .i64 0]) ∧ Below W.heap.size W w')
    (cc : ∀ w, Calls Try.prog 86 #[.agg #[.int .i64 X.w, .int .i64 X.x, .int .i64 X.y, .int .i64 X.z]] w fun e w' => e = .returned (.int .i64 c) ∧ Below w.heap.size w w') :
    Calls Try.prog 58 #[.agg #[.int .i64 x.w, .int .i64 x.x, .int .i64 x.y, .int .i64 x.z, .int .i64 x.d], v] w fun e w' => e = .returned (.tuple #[.slice none 0 0, .int .i64 3]) ∧ Below w.heap.size w w' := by
  have CM : Hid _ := cm; have CC := Lib.hid cc
  clear cm cc
  have hc1 : (c != 1) = true := by simpa using hc
  clear hc
  go_enter Try.func58, Try.ntmps58
  go_wp2_with (first | (go_at_call 105; (with_reducible refine (CM.out _ ?_).mono ?_); (focus ((repeat (first | with_reducible assumption | with_reducible exact Below.refl _ _ | with_reducible refine Below.drewN ?_ _ | with_reducible refine Below.drew ?_ | with_reducible refine Below.alloc ?_ (by first | omega | (simp; done) | (simp; omega)) _ | with_reducible refine Below.setCell ?_ (by first | omega | (simp; done) | (simp; omega)) _ | with_reducible refine below_more _ _ ?_ (by first | omega | (simp; done) | (simp; omega)))))); rintro e w1 ⟨rfl, hb1⟩; obtain ⟨g1, rfl⟩ := more_of_below hb1; clear hb1) | (go_at_call 86; with_reducible refine (CC.out _).mono ?_; rintro e w2 ⟨rfl, hb2⟩; obtain ⟨g2, rfl⟩ := more_of_below hb2; clear hb2))
  refine bodyPost_ret (v := .tuple #[.slice none 0 0, .int .i64 3]) (by simp [results, Try.results58, go_sem]) rfl ⟨rfl, by (repeat (first | with_reducible assumption | with_reducible exact Below.refl _ _ | with_reducible refine Below.drewN ?_ _ | with_reducible refine Below.drew ?_ | with_reducible refine Below.alloc ?_ (by first | omega | (simp; done) | (simp; omega)) _ | with_reducible refine Below.setCell ?_ (by first | omega | (simp; done) | (simp; omega)) _ | with_reducible refine below_more _ _ ?_ (by first | omega | (simp; done) | (simp; omega))))⟩
theorem nrm_hm_ge {a b : Qt} (ha : Qt.Hz a) (hb : Qt.Hz b) (h : 4 ≤ a.nrm) : b.nrm ≤ (Qt.hm a b).nrm := by
  have := Qt.hm_nrm ha hb
  have h2 := Int.mul_le_mul_of_nonneg_right h b.nrm_nonneg
  omega
/-- What the law's walk asks of the sequences. -/
structure FacF (l : List Int) (X : Qt) (n : Nat) : Prop where
  H : ∀ k, k ≤ n → Qt.Hz (facH l X k) ∧ 4 ≤ (facH l X k).nrm ∧ (facH l X k).nrm ≤ X.nrm
  D : ∀ k, k < n → Qt.Hz (facD l X k) ∧ (facD l X k).nrm = 4 * l.getD k 0 ∧ (facD l X k).nrm ≤ X.nrm ∧ canon (facD l X k) = facD l X k ∧ facH l X k = Qt.hm (facD l X k) (facH l X (k + 1))
  L : ∀ q ∈ facL l X n, Qt.Hz q ∧ q.nrm ≤ X.nrm
  N : ∀ (k : Nat) (q : Qt) (z : Int), (facL l X n)[k]? = some q → l[k]? = some z → q.nrm / 4 = z
theorem facF {X : Qt} {l : List Int} (hz : Qt.Hz X) (hp : Qt.Prim X) (hl : ∀ p ∈ l, okP p = true) (hprod : prodZ l = X.nrm / 4) {n : Nat} (hn : l.length = n + 1) : FacF l X n := by
  have A := fac_all hz hp hl hprod
  have S : ∀ k, k < l.length → FacS l X k (l.getD k 0) := fun k hk => by
    have hq := List.getElem?_eq_getElem hk
    have := (fac_one hl hq (A k (by omega))).2
    rw [List.getD_eq_getElem?_getD, hq]; exact this
  have P2 : ∀ k, k < l.length → 2 ≤ l.getD k 0 := fun k hk => by
    rw [List.getD_eq_getElem?_getD, List.getElem?_eq_getElem hk]
    exact (okP_two (hl _ (List.getElem_mem hk))).1
  have hH : ∀ k, k ≤ n → (facH l X k).nrm ≤ X.nrm := fun k => by
    induction k with
    | zero => exact fun _ => Int.le_refl _
    | succ k ih =>
      intro hk
      have s := S k (by omega)
      have p2 := P2 k (by omega)
      have := nrm_hm_ge s.dz (A (k + 1) (by omega)).hz (by rw [s.dn]; omega)
      rw [← s.eq] at this
      exact Int.le_trans this (ih (by omega))
  have hD : ∀ k, k < n → (facD l X k).nrm ≤ X.nrm := fun k hk => by
    have s := S k (by omega)
    have := nrm_hm_le s.dz (A (k + 1) (by omega)).hz (fac_pos hl (A (k + 1) (by omega)))
    rw [← s.eq] at this
    exact Int.le_trans this (hH k (by omega))
  refine ⟨fun k hk => ⟨(A k (by omega)).hz, fac_pos hl (A k (by omega)), hH k hk⟩, fun k hk => ?_, fun q hq => ?_, fun k q z hq hzk => ?_⟩
  · have s := S k (by omega)
    exact ⟨s.dz, s.dn, hD k hk, s.cn, s.eq⟩
  · unfold facL at hq
    rcases List.mem_append.1 hq with h | h
    · obtain ⟨k, hk, rfl⟩ := List.mem_map.1 h
      have hk := List.mem_range.1 hk
      exact ⟨(S k (by omega)).dz, hD k hk⟩
    · rw [List.mem_singleton.1 h]
      exact ⟨(A n (by omega)).hz, hH n (Nat.le_refl _)⟩
  · have hk : k < l.length := (List.getElem?_eq_some_iff.1 hzk).1
    have hg : l.getD k 0 = z := by rw [List.getD_eq_getElem?_getD, hzk]; rfl
    by_cases hkn : k < n
    · rw [facL_lo hkn] at hq
      cases hq
      have := (S k hk).dn
      rw [hg] at this
      omega
    · obtain rfl : k = n := by omega
      rw [facL_hi] at hq
      cases hq
      rw [(A k (by omega)).nr, List.drop_eq_getElem_cons hk, List.drop_of_length_le (by omega), prodZ_cons]
      have e := (List.getElem?_eq_some_iff.1 hzk).2
      rw [e]
      show z * 1 = z
      omega
/-- An argument that is a list of numbers. -/
def ArgZ (W : World) (v : Value) (l : List Int) : Prop := ∃ a0 cap0, v = .slice a0 l.length cap0 ∧ l.length ≤ cap0 ∧ cap0 ≤ 9223372036854775807 ∧ RdZ W v l
theorem merr_ok {N : Int} {l : List Int} (h : merr N l = 0) : (∀ p ∈ l, okP p = true) ∧ prodZ l = N := by
  unfold merr at h
  split at h
  · rename_i ha
    split at h
    · rename_i hb
      exact ⟨List.all_eq_true.1 ha, hb⟩
    · omega
  · omega
set_option maxRecDepth 10000 in
theorem law_factors (x : Qd) (v : Value) (l : List Int) (w : World) (hv : ArgZ w v l) :
    Calls Try.prog 12 #[.agg #[.int .i64 x.w, .int .i64 x.x, .int .i64 x.y, .int .i64 x.z, .int .i64 x.d], v] w fun e w' => e = .returned (.bool true) ∧ Below w.heap.size w w' := by
  obtain ⟨a0, cap0, rfl, hcap, hmax, hrd⟩ := hv
  by_cases h8 : 8 < l.length
  · exact fc_long x a0 l.length cap0 h8 (by omega) w
  have h8' : l.length ≤ 8 := by omega
  have cp : ∀ W, Below w.heap.size w W → Calls Try.prog 59 #[.slice a0 l.length cap0] W fun e w' => ∃ v, e = .returned v ∧ RdC w' v l ∧ Below W.heap.size W w' := fun W hb => copy_rdc (hrd.below hb (Nat.le_refl _)) (by omega)
  have ea := rerr_any x
  by_cases hx : x.oerr = 0
  rotate_left
  · exact fc_err x a0 l.length cap0 h8' l x.ofv w x.ofOk x.oerr hx cp (fun W v hr => pfac_err x v x.oerr hx ⟨0, 0, 0, 0⟩ W (fun W' _ => cm_err x v hx W')) ea (rof_any x)
  rw [hx] at ea
  obtain ⟨x1, x2, x3, x4⟩ := Opn.of hx
  have ox := rof_ok x x1 x2
  have ho := fun (W : World) (m : Nat) (hm : m = W.heap.size) => open_ok1 x W (by rw [oerrL_one]; exact hx) hm
  have zx := rzero_any x.rdv
  have nx := rnorm_in x.rdv (by omega)
  have pz := hzero_any x.rdv
  have pn := hnorm_any x.rdv (by omega)
  have n0 := x.rdv.nrm_nonneg
  have bN : 0 ≤ x.rdv.nrm / 4 ∧ x.rdv.nrm / 4 ≤ 1000000 := by omega
  by_cases h0 : x.rdv.eqb ⟨0, 0, 0, 0⟩ = true
  · rw [h0] at zx pz
    exact fc_mod x a0 l.length cap0 h8' l x.rdv w 10 (by decide) cp (fun W v hr => pfac_err x v 10 (by decide) ⟨0, 0, 0, 0⟩ W (fun W' _ => cm_zero x x.rdv ho v pz W')) ea ox (fun W _ => rm_zero x.rdv _ zx W)
  have h0' : x.rdv.eqb ⟨0, 0, 0, 0⟩ = false := by simpa using h0
  rw [h0'] at zx pz
  by_cases hlen : l.length < 1 ∨ 6 < l.length
  · refine fc_mod x a0 l.length cap0 h8' l x.rdv w 2 (by decide) cp (fun W v hr => ?_) ea ox (fun W _ => rm_len x.rdv a0 l.length cap0 (by unfold inB; rw [decide_eq_false_iff_not]; omega) zx W)
    obtain ⟨a, cap, rfl, _, _⟩ := hr
    exact pfac_err x _ 2 (by decide) ⟨0, 0, 0, 0⟩ W (fun W' _ => cm_len x x.rdv ho a l.length cap hlen (by omega) pz W')
  have hlen' : 1 ≤ l.length ∧ l.length ≤ 6 := by omega
  obtain ⟨a, cap, e, hza⟩ := hrd.row (by omega)
  cases e
  have hne : l ≠ [] := fun e => by rw [e] at hlen'; simp at hlen'
  have me : ∀ W, Below w.heap.size w W → Calls Try.prog 60 #[.agg #[.int .i64 x.rdv.w, .int .i64 x.rdv.x, .int .i64 x.rdv.y, .int .i64 x.rdv.z], .slice (some a) l.length cap0] W fun e w' => e = .returned (.int .i64 (merr (x.rdv.nrm / 4) l)) ∧ Below W.heap.size W w' :=
    fun W hb => rm_model x.rdv l a cap0 (x.rdv.nrm / 4) bN hlen' zx nx W (hza.below hb (Nat.le_refl _))
  have cmz : ∀ (g cap : Nat) W, ZAt W ⟨g, 0, none⟩ l → Calls Try.prog 105 #[.agg #[.int .i64 x.w, .int .i64 x.x, .int .i64 x.y, .int .i64 x.z, .int .i64 x.d], .slice (some ⟨g, 0, none⟩) l.length cap] W fun e w' => e = .returned (.tuple #[.agg #[.int .i64 ((if merr (x.rdv.nrm / 4) l = 0 then x.rdv else ⟨0, 0, 0, 0⟩)).w, .int .i64 ((if merr (x.rdv.nrm / 4) l = 0 then x.rdv else ⟨0, 0, 0, 0⟩)).x, .int .i64 ((if merr (x.rdv.nrm / 4) l = 0 then x.rdv else ⟨0, 0, 0, 0⟩)).y, .int .i64 ((if merr (x.rdv.nrm / 4) l = 0 then x.rdv else ⟨0, 0, 0, 0⟩)).z], .int .i64 (merr (x.rdv.nrm / 4) l)]) ∧ Below W.heap.size W w' :=
    fun g cap W hz => cm_model x x.rdv ho l ⟨g, 0, none⟩ cap (x.rdv.nrm / 4) bN hlen' _ rfl pz pn W hz
  have zat : ∀ (g : Nat) W, ZRow W g l → ZAt W ⟨g, 0, none⟩ l := fun g W hz k q hq => by
    rw [show (⟨g, 0, none⟩ : Addr).add k = ⟨g, k, none⟩ by unfold Addr.add; split <;> simp_all]
    exact hz.at_ k q hq
  have cm : ∀ W v, RdC W v l → ∀ W', Below W.heap.size W W' → Calls Try.prog 105 #[.agg #[.int .i64 x.w, .int .i64 x.x, .int .i64 x.y, .int .i64 x.z, .int .i64 x.d], v] W' fun e w' => e = .returned (.tuple #[.agg #[.int .i64 ((if merr (x.rdv.nrm / 4) l = 0 then x.rdv else ⟨0, 0, 0, 0⟩)).w, .int .i64 ((if merr (x.rdv.nrm / 4) l = 0 then x.rdv else ⟨0, 0, 0, 0⟩)).x, .int .i64 ((if merr (x.rdv.nrm / 4) l = 0 then x.rdv else ⟨0, 0, 0, 0⟩)).y, .int .i64 ((if merr (x.rdv.nrm / 4) l = 0 then x.rdv else ⟨0, 0, 0, 0⟩)).z], .int .i64 (merr (x.rdv.nrm / 4) l)]) ∧ Below W'.heap.size W' w' := fun W v hr W' hb => by
    obtain ⟨a, cap, rfl, _, h⟩ := hr
    obtain ⟨g, rfl, hz⟩ := h hne
    exact cmz g cap W' (zat g W' (ZRow.low hb hz))
  by_cases hm : merr (x.rdv.nrm / 4) l = 0
  rotate_left
  · exact fc_mod x (some a) l.length cap0 h8' l x.rdv w _ hm cp (fun W v hr => pfac_err x v _ hm _ W (cm W v hr)) ea ox me
  rw [hm] at me
  simp only [hm, if_true] at cm cmz
  obtain ⟨hall, hprod⟩ := merr_ok hm
  have bd : Qt.Bd 4000000 x.rdv := Qt.bd_of_nrm (by omega) (by omega)
  have hg := g4_pos h0'
  have cc := content_in x.rdv bd hg
  have rc := rcontent_hz x.rdv x3 h0' bd
  by_cases hc : x.rdv.ctn = 1
  rotate_left
  · exact fc_form x (some a) l.length cap0 h8' l x.rdv w _ hc cp (fun W v hr => pfac_form x v x.rdv _ hc W (cm W v hr) cc) ea ox me rc
  rw [hc] at cc rc
  have hprim := (Qt.prim_ctn x3 h0').1 hc
  obtain ⟨n, hn⟩ : ∃ n, l.length = n + 1 := ⟨l.length - 1, by omega⟩
  have F := facF x3 hprim hall hprod hn
  have FP := facP_all x3 hprim hall hprod hn
  generalize x.rdv = X at *
  have hL := facL_len l X n
  have hin : ∀ q ∈ facL l X n, q.InR := fun q hq => Qt.inR_of_nrm (by have := (F.L q hq).2; omega)
  have hq2 : ∀ (k : Nat) (q : Int), l[k]? = some q → 2 ≤ q ∧ q ≤ 1000000 := fun k q hq => okP_two (hall q (List.mem_of_getElem? hq))
  have hgd : ∀ (k : Nat) (q : Int), l[k]? = some q → l.getD k 0 = q := fun k q hq => by rw [List.getD_eq_getElem?_getD, hq]; rfl
  have hkq : ∀ k, k < n → ∃ q, l[k]? = some q := fun k hk => ⟨_, List.getElem?_eq_getElem (show k < l.length by omega)⟩
  have nb : ∀ (k : Nat), k < n → Qt.nrm (Qt.num (l.getD k 0)) ≤ 4000000000000 := fun k hk => by
    obtain ⟨q, hq⟩ := hkq k hk
    have h := hq2 k q hq
    rw [hgd k q hq]
    have := Int.mul_le_mul h.2 h.2 (by omega) (by omega)
    rw [show (Qt.num q).nrm = 4 * (q * q) from Qt.nrm_num q]
    omega
  have d4 : ∀ k, k < n → 4 ≤ (facD l X k).nrm := fun k hk => by
    obtain ⟨q, hq⟩ := hkq k hk
    have h2 := hq2 k q hq
    have d2 := (F.D k hk).2.1
    rw [hgd k q hq] at d2
    omega
  have dH : ∀ k, k < n → ((facD l X k).conj.mul (facH l X k)).InR := fun k hk => Qt.inR_of_nrm (by
    rw [Qt.nrm_mul, Qt.nrm_conj]
    have := Int.mul_le_mul (F.D k hk).2.2.1 (F.H k (by omega)).2.2 (Qt.nrm_nonneg _) (by omega)
    have := Int.mul_le_mul x4 x4 (Qt.nrm_nonneg _) (by omega)
    omega)
  have pf : ∀ W v, RdC W v l → Calls Try.prog 58 #[.agg #[.int .i64 x.w, .int .i64 x.x, .int .i64 x.y, .int .i64 x.z, .int .i64 x.d], v] W fun e w' => (∃ u, e = .returned (.tuple #[u, .int .i64 0]) ∧ Rd w' u ((facL l X n).map Qt.toQ) ∧ Below W.heap.size W w') := fun W v hr => by
    obtain ⟨a, cap, rfl, hcp, h⟩ := hr
    obtain ⟨g, rfl, hz⟩ := h hne
    have cmg := cmz g cap
    rw [hn] at cmg hcp ⊢
    refine (pfac_walk x X l ⟨g, 0, none⟩ cap n hn (by omega) (by omega) (facH l X) (facD l X) (fun k => Qt.num (l.getD k 0)) rfl cmg cc
      (fun k q hk hq w => by rw [hgd k q hq]; exact number_in q (by have := hq2 k q hq; omega) (by have := hq2 k q hq; omega) w)
      (fun k hk w => common_hz _ _ (F.H k (by omega)).1 (Qt.hz_nm _) (by have := (F.H k (by omega)).2.2; omega) (nb k hk) w)
      (fun k hk w => before_in _ _ (Qt.inR_of_nrm (by have := (F.D k hk).2.2.1; omega)) (by have := (F.D k hk).2.2.1; omega) (d4 k hk) (dH k hk) w)
      hin W (zat g W hz)).mono ?_
    rintro e w' ⟨u, rfl, h1, h2⟩
    exact ⟨u, rfl, h1.rd, h2⟩
  have rf : ∀ W, Below w.heap.size w W → Calls Try.prog 61 #[.agg #[.int .i64 X.w, .int .i64 X.x, .int .i64 X.y, .int .i64 X.z], .slice (some a) l.length cap0] W fun e w' => (∃ g c, e = .returned (.slice (some ⟨g, 0, none⟩) l.length c) ∧ HRow w' g (facL l X n) ∧ Below W.heap.size W w') := fun W hb => by
    rw [hn]
    refine (rfac_walk X l a cap0 n hn (by omega) (facH l X) (facD l X) (fun k => Qt.num (l.getD k 0)) rfl
      (fun k q hk hq w => by rw [hgd k q hq]; exact rwhole_in q (by have := hq2 k q hq; omega) (by have := hq2 k q hq; omega) w)
      (fun k hk w => rgcd_in _ _ (F.H k (by omega)).1 (Qt.hz_nm _) (by have := (F.H k (by omega)).2.2; omega) (nb k hk) w)
      (fun k hk w => by
        have h := rleft_ok (facD l X k) (facH l X (k + 1)) (F.D k hk).1 (F.H (k + 1) (by omega)).1 (d4 k hk) (by have := (F.D k hk).2.2.1; omega) (by have := (F.H (k + 1) (by omega)).2.2; omega) w
        rw [← (F.D k hk).2.2.2.2] at h
        exact h) W (hza.below hb (Nat.le_refl _))).mono ?_
    rintro e w' ⟨u, rfl, h1, h2⟩
    obtain ⟨g, c, e, h3⟩ := h1.hrow (by rw [← facL, hL]; omega)
    subst e
    rw [← facL] at h3
    rw [← facL, hL]
    exact ⟨g, c, rfl, h3, h2⟩
  refine fc_ok x (some a) l.length cap0 h8' l X w (by omega) (facL l X n) (by rw [hL, hn]) rfl (facP l X n) ?_ ?_ ⟨a, rfl, hza⟩ cp pf ea ox me rc rf ?_ ?_ ?_ ?_ ?_
  · show _ = some ((facL l X n).getD 0 _)
    rw [List.getD_eq_getElem?_getD, List.getElem?_eq_getElem (show 0 < (facL l X n).length by rw [hL]; omega)]; rfl
  · rw [hn]; exact (FP n (Nat.le_refl _)).en rfl
  · intro W g c h
    have h2 := rquats_any (W := W) (v := .slice (some ⟨g, 0, none⟩) (facL l X n).length c) (.inr ⟨g, c, rfl, h.lt, h.at_⟩) (by rw [hL]; omega) (fun q hq => ⟨hin q hq, (F.L q hq).1⟩)
    rw [hL, ← hn] at h2
    refine h2.mono ?_
    rintro e w' ⟨u, rfl, h3, h4⟩
    exact ⟨u, rfl, h3.rd, h4⟩
  · intro W u v h1 h2
    have h := same_any h1 h2 (by rw [List.length_map, hL]; omega) (by rw [List.length_map, hL]; omega)
    rw [decide_eq_true rfl] at h
    exact h
  · intro k e hk he w
    rw [facL_lo (by omega)] at he
    cases he
    have h := rcanonical_hz (facD l X k) (by have := (F.D k (by omega)).2.2.1; omega) w
    rw [(F.D k (by omega)).2.2.2.1] at h
    exact h
  · intro k q hq w
    have hk : k + 1 ≤ n := by have := (List.getElem?_eq_some_iff.1 hq).1; rw [hL] at this; omega
    have h := rtimes_in (facP l X n k) q (Qt.inR_of_nrm (by
      rw [Qt.nrm_mul]
      have := Int.mul_le_mul (FP k (by omega)).nr (F.L q (List.mem_of_getElem? hq)).2 (Qt.nrm_nonneg _) (by omega)
      have := Int.mul_le_mul x4 x4 (Qt.nrm_nonneg _) (by omega)
      omega)) w
    rw [Qt.hm_eq] at h
    have e : facP l X n (k + 1) = Qt.hm (facP l X n k) q := by
      show Qt.hm _ ((facL l X n).getD (k + 1) _) = _
      rw [List.getD_eq_getElem?_getD, hq]; rfl
    rw [e]; exact h
  · intro k q z hq hz w
    have h := rnorm_in q (by have := (F.L q (List.mem_of_getElem? hq)).2; omega) w
    rw [F.N k q z hq hz] at h
    exact h
end Go.Proofs.Ythajaabgcbjfkaa
