/- The law RotationCounts. -/
import Derived.Test.YthajaabgcbjfkaaF6
namespace Go.Proofs.Ythajaabgcbjfkaa
open Go.RowKit Go.Maps
attribute [local go_sem ↓] Go.wp_at_zero Go.wp_at_succ

set_option maxRecDepth 10000 in
set_option maxHeartbeats 2000000 in
theorem pcnt_err (x : Qd) (v : Value) (d : Int) (hd : d ≠ 0) (Z : Qt) (w : World)
    (cm : ∀ W, Below w.heap.size w W → Calls Try.prog 105 #[.agg #[.int .i64 x.w, .int .i64 x.x, .int .i64 x.y, .int .i64 x.z, .int .i64 x.d], v] W fun e w' => e = .returned (.tuple #[.agg #[.int .i64 Z.w, .int .i64 Z.x, .int .i64 Z.y, .int .i64 Z.z], .int .i64 d]) ∧ Below W.heap.size W w') :
    Calls Try.prog 62 #[.agg #[.int .i64 x.w, .int .i64 x.x, .int .i64 x.y, .int .i64 x.z, .int .i64 x.d], v] w fun e w' => e = .returned (.tuple #[.int .i64 0, .int .i64 d]) ∧ Below w.heap.size w w' := by
  have CM : Hid _ := cm
  clear cm
  have hd1 : (d != 0) = true := by simpa using hd
  clear hd
  go_enter Try.func62, Try.ntmps62
  go_wp2_with (first | (go_at_call 105; (with_reducible refine (CM.out _ ?_).mono ?_); (focus ((repeat (first | with_reducible assumption | with_reducible exact Below.refl _ _ | with_reducible refine Below.drewN ?_ _ | with_reducible refine Below.drew ?_ | with_reducible refine Below.alloc ?_ (by first | omega | (simp; done) | (simp; omega)) _ | with_reducible refine Below.setCell ?_ (by first | omega | (simp; done) | (simp; omega)) _ | with_reducible refine below_more _ _ ?_ (by first | omega | (simp; done) | (simp; omega)))))); rintro e w1 ⟨rfl, hb1⟩; obtain ⟨g1, rfl⟩ := more_of_below hb1; clear hb1))
  refine bodyPost_ret (v := .tuple #[.int .i64 0, .int .i64 d]) (by simp [results, Try.results62, go_sem]) rfl ⟨rfl, by (repeat (first | with_reducible assumption | with_reducible exact Below.refl _ _ | with_reducible refine Below.drewN ?_ _ | with_reducible refine Below.drew ?_ | with_reducible refine Below.alloc ?_ (by first | omega | (simp; done) | (simp; omega)) _ | with_reducible refine Below.setCell ?_ (by first | omega | (simp; done) | (simp; omega)) _ | with_reducible refine below_more _ _ ?_ (by first | omega | (simp; done) | (simp; omega))))⟩
theorem mapI_made' {B : Nat} {W : World} (h : B = W.heap.size) : MapI B (W.alloc (.map #[] 0)) := by subst h; exact mapI_made W
theorem below_of_cm {B : Nat} {w W w' : World} (h : Below w.heap.size w W) (hB : w.heap.size ≤ B) (k : CM B W w') : Below w.heap.size w w' :=
  h.grown k.1 h.size (fun j hj => by cases hj; exact hB)
set_option maxRecDepth 10000 in
set_option maxHeartbeats 4000000 in
theorem pcnt_ok (x : Qd) (X : Qt) (c : Int) (n : Nat) (a : Addr) (cap : Nat) (w : World)
    (cm : ∀ W, Below w.heap.size w W → Calls Try.prog 105 #[.agg #[.int .i64 x.w, .int .i64 x.x, .int .i64 x.y, .int .i64 x.z, .int .i64 x.d], .slice (some a) n cap] W fun e w' => e = .returned (.tuple #[.agg #[.int .i64 X.w, .int .i64 X.x, .int .i64 X.y, .int .i64 X.z], .int .i64 0]) ∧ Below W.heap.size W w')
    (ct : ∀ B W, w.heap.size ≤ B → Below w.heap.size w W → MapI B W → Calls Try.prog 108 #[.map (some B), .agg #[.int .i64 X.w, .int .i64 X.x, .int .i64 X.y, .int .i64 X.z], .slice (some a) n cap] W fun e w' => e = .returned (.int .i64 c) ∧ CM B W w') :
    Calls Try.prog 62 #[.agg #[.int .i64 x.w, .int .i64 x.x, .int .i64 x.y, .int .i64 x.z, .int .i64 x.d], .slice (some a) n cap] w fun e w' => e = .returned (.tuple #[.int .i64 c, .int .i64 0]) ∧ Below w.heap.size w w' := by
  have CMo : Hid _ := cm; have CTo : Hid _ := ct
  clear cm ct
  have hmm := @run_makeMap Try.prog
  go_enter Try.func62, Try.ntmps62
  go_wp2_with (first | (go_at_call 105; (with_reducible refine (CMo.out _ ?_).mono ?_); (focus ((repeat (first | with_reducible assumption | with_reducible exact Below.refl _ _ | with_reducible refine Below.drewN ?_ _ | with_reducible refine Below.drew ?_ | with_reducible refine Below.alloc ?_ (by first | omega | (simp; done) | (simp; omega)) _ | with_reducible refine Below.setCell ?_ (by first | omega | (simp; done) | (simp; omega)) _ | with_reducible refine below_more _ _ ?_ (by first | omega | (simp; done) | (simp; omega)))))); rintro e w1 ⟨rfl, hb1⟩; obtain ⟨g1, rfl⟩ := more_of_below hb1; clear hb1) | (go_at_call 108; (with_reducible refine (CTo.out _ _ ?_ ?_ ?_).mono ?_); (focus (first | omega | (simp; done) | (simp; omega) | (simp only [size_more_eq, World.size_alloc]; omega))); (focus ((repeat (first | with_reducible assumption | with_reducible exact Below.refl _ _ | with_reducible refine Below.drewN ?_ _ | with_reducible refine Below.drew ?_ | with_reducible refine Below.alloc ?_ (by first | omega | (simp; done) | (simp; omega)) _ | with_reducible refine Below.setCell ?_ (by first | omega | (simp; done) | (simp; omega)) _ | with_reducible refine below_more _ _ ?_ (by first | omega | (simp; done) | (simp; omega)))))); (focus (exact mapI_made' (by simp))); rintro e w2 ⟨rfl, hc2⟩; have H2 := Lib.hid hc2; clear hc2))
  refine bodyPost_ret (v := .tuple #[.int .i64 c, .int .i64 0]) (by simp [results, Try.results62, go_sem]) rfl ⟨rfl, below_of_cm (W := ((more (((w.alloc (.cells #[.int .i64 x.w, .int .i64 x.x, .int .i64 x.y, .int .i64 x.z, .int .i64 x.d] 23)))) g1).alloc (.cells #[.int .i64 X.w, .int .i64 X.x, .int .i64 X.y, .int .i64 X.z] 96)).alloc (.map #[] 0)) (by (repeat (first | with_reducible assumption | with_reducible exact Below.refl _ _ | with_reducible refine Below.drewN ?_ _ | with_reducible refine Below.drew ?_ | with_reducible refine Below.alloc ?_ (by first | omega | (simp; done) | (simp; omega)) _ | with_reducible refine Below.setCell ?_ (by first | omega | (simp; done) | (simp; omega)) _ | with_reducible refine below_more _ _ ?_ (by first | omega | (simp; done) | (simp; omega))))) (by first | omega | (simp; omega)) H2.out⟩
theorem law_counts (x : Qd) (v : Value) (l : List Int) (w : World) (hv : ArgZ w v l) :
    Calls Try.prog 13 #[.agg #[.int .i64 x.w, .int .i64 x.x, .int .i64 x.y, .int .i64 x.z, .int .i64 x.d], v] w fun e w' => e = .returned (.bool true) ∧ Below w.heap.size w w' := by
  obtain ⟨a0, cap0, rfl, hcap, hmax, hrd⟩ := hv
  by_cases h8 : 8 < l.length
  · exact cc_long x a0 l.length cap0 h8 (by omega) w
  have h8' : l.length ≤ 8 := by omega
  have cp : ∀ W, Below w.heap.size w W → Calls Try.prog 59 #[.slice a0 l.length cap0] W fun e w' => ∃ v, e = .returned v ∧ RdC w' v l ∧ Below W.heap.size W w' := fun W hb => copy_rdc (hrd.below hb (Nat.le_refl _)) (by omega)
  have ea := rerr_any x
  by_cases hx : x.oerr = 0
  rotate_left
  · exact cc_err x a0 l.length cap0 h8' l x.ofv w x.ofOk x.oerr hx cp (fun W v hr => pcnt_err x v x.oerr hx ⟨0, 0, 0, 0⟩ W (fun W' _ => cm_err x v hx W')) ea (rof_any x)
  rw [hx] at ea
  obtain ⟨x1, x2, x3, x4⟩ := Opn.of hx
  have ox := rof_ok x x1 x2
  have ho := fun (W : World) (m : Nat) (hm : m = W.heap.size) => open_ok1 x W (by rw [oerrL_one]; exact hx) hm
  have zx := rzero_any x.rdv
  have nx := rnorm_in x.rdv (by omega)
  have pz := hzero_any x.rdv
  have pn := hnorm_any x.rdv (by omega)
  have n0 := x.rdv.nrm_nonneg
  have bN : 0 ≤ x.rdv.nrm / 4 ∧ x.rdv.nrm / 4 ≤ 1000000 := by omega
  by_cases h0 : x.rdv.eqb ⟨0, 0, 0, 0⟩ = true
  · rw [h0] at zx pz
    exact cc_mod x a0 l.length cap0 h8' l x.rdv w 10 (by decide) cp (fun W v hr => pcnt_err x v 10 (by decide) ⟨0, 0, 0, 0⟩ W (fun W' _ => cm_zero x x.rdv ho v pz W')) ea ox (fun W _ => rm_zero x.rdv _ zx W)
  have h0' : x.rdv.eqb ⟨0, 0, 0, 0⟩ = false := by simpa using h0
  rw [h0'] at zx pz
  by_cases hlen : l.length < 1 ∨ 6 < l.length
  · refine cc_mod x a0 l.length cap0 h8' l x.rdv w 2 (by decide) cp (fun W v hr => ?_) ea ox (fun W _ => rm_len x.rdv a0 l.length cap0 (by unfold inB; rw [decide_eq_false_iff_not]; omega) zx W)
    obtain ⟨a, cap, rfl, _, _⟩ := hr
    exact pcnt_err x _ 2 (by decide) ⟨0, 0, 0, 0⟩ W (fun W' _ => cm_len x x.rdv ho a l.length cap hlen (by omega) pz W')
  have hlen' : 1 ≤ l.length ∧ l.length ≤ 6 := by omega
  obtain ⟨a, cap, e, hza⟩ := hrd.row (by omega)
  cases e
  have hne : l ≠ [] := fun e => by rw [e] at hlen'; simp at hlen'
  have me : ∀ W, Below w.heap.size w W → Calls Try.prog 60 #[.agg #[.int .i64 x.rdv.w, .int .i64 x.rdv.x, .int .i64 x.rdv.y, .int .i64 x.rdv.z], .slice (some a) l.length cap0] W fun e w' => e = .returned (.int .i64 (merr (x.rdv.nrm / 4) l)) ∧ Below W.heap.size W w' :=
    fun W hb => rm_model x.rdv l a cap0 (x.rdv.nrm / 4) bN hlen' zx nx W (hza.below hb (Nat.le_refl _))
  have zat : ∀ (g : Nat) W, ZRow W g l → ZAt W ⟨g, 0, none⟩ l := fun g W hz k q hq => by
    rw [show (⟨g, 0, none⟩ : Addr).add k = ⟨g, k, none⟩ by unfold Addr.add; split <;> simp_all]
    exact hz.at_ k q hq
  have cm : ∀ W v, RdC W v l → ∀ W', Below W.heap.size W W' → Calls Try.prog 105 #[.agg #[.int .i64 x.w, .int .i64 x.x, .int .i64 x.y, .int .i64 x.z, .int .i64 x.d], v] W' fun e w' => e = .returned (.tuple #[.agg #[.int .i64 ((if merr (x.rdv.nrm / 4) l = 0 then x.rdv else ⟨0, 0, 0, 0⟩)).w, .int .i64 ((if merr (x.rdv.nrm / 4) l = 0 then x.rdv else ⟨0, 0, 0, 0⟩)).x, .int .i64 ((if merr (x.rdv.nrm / 4) l = 0 then x.rdv else ⟨0, 0, 0, 0⟩)).y, .int .i64 ((if merr (x.rdv.nrm / 4) l = 0 then x.rdv else ⟨0, 0, 0, 0⟩)).z], .int .i64 (merr (x.rdv.nrm / 4) l)]) ∧ Below W'.heap.size W' w' := fun W v hr W' hb => by
    obtain ⟨a, cap, rfl, _, h⟩ := hr
    obtain ⟨g, rfl, hz⟩ := h hne
    exact cm_model x x.rdv ho l ⟨g, 0, none⟩ cap (x.rdv.nrm / 4) bN hlen' _ rfl pz pn W' (zat g W' (ZRow.low hb hz))
  by_cases hm : merr (x.rdv.nrm / 4) l = 0
  rotate_left
  · exact cc_mod x (some a) l.length cap0 h8' l x.rdv w _ hm cp (fun W v hr => pcnt_err x v _ hm _ W (cm W v hr)) ea ox me
  rw [hm] at me
  simp only [hm, if_true] at cm
  obtain ⟨hall, hprod⟩ := merr_ok hm
  by_cases h7 : ∃ (j : Nat) (z : Int), l[j]? = some z ∧ 7 < z
  · obtain ⟨j, z, hj, hz⟩ := h7
    exact cc_seven x (some a) l.length cap0 h8' l x.rdv w a rfl rfl j z hj hz hza ea ox me
  have h7' : ∀ p ∈ l, p ≤ 7 := fun p hp => by
    obtain ⟨j, hj, e⟩ := List.getElem_of_mem hp
    apply Int.not_lt.1; intro hlt
    exact h7 ⟨j, p, by rw [← e]; exact List.getElem?_eq_getElem hj, hlt⟩
  have bd : Qt.Bd 4000000 x.rdv := Qt.bd_of_nrm (by omega) (by omega)
  have rc := rcontent_hz x.rdv x3 h0' bd
  have hC : Cnt l x.rdv := ⟨x3, hall, hprod.symm⟩
  refine cc_ok x (some a) l.length cap0 h8' l x.rdv w hlen'.1 hlen'.2 a rfl rfl h7' hza (cntQ l x.rdv) x.rdv.ctn (fun k => 24 ^ (k - 1)) (by decide) (fun k hk => ?_) (fun k => ?_) (fun k hk => ?_) (fun ht => ?_) cp (fun W v hr => ?_) ea ox me rc (fun W hW => ?_)
  · show (24 : Int) ^ (k + 1 - 1) = 24 * 24 ^ (k - 1)
    rw [show k + 1 - 1 = (k - 1) + 1 by omega, Int.pow_succ, Int.mul_comm]
  · exact Int.pow_nonneg (by decide)
  · show (24 : Int) ^ (k - 1) ≤ 7962624
    match k, hk with
    | 0, _ => decide
    | 1, _ => decide
    | 2, _ => decide
    | 3, _ => decide
    | 4, _ => decide
    | 5, _ => decide
    | 6, _ => decide
  · exact cnt_prim l x.rdv hC ((Qt.prim_ctn x3 h0').1 ht)
  · have cm' := cm W v hr
    obtain ⟨a2, cap2, rfl, hcp, h⟩ := hr
    obtain ⟨g, rfl, hz⟩ := h hne
    refine pcnt_ok x x.rdv (cntQ l x.rdv) l.length ⟨g, 0, none⟩ cap2 W cm' (fun B W' hB hW' hmi => ?_)
    have hz' := ZRow.low hW' hz
    exact count_all l x.rdv B g 0 cap2 W' hC hne h7' hlen'.2 x4 hmi (fun k q hq => by rw [Nat.zero_add]; exact hz'.at_ k q hq) (by have := hz.lt; omega) hcp
  · have h5 := rcount_all l x.rdv a cap0 W hC hne h7' hlen'.2 x4 (hza.below hW (Nat.le_refl _)) hcap
    rw [cnt_same l x.rdv hC] at h5
    exact h5
end Go.Proofs.Ythajaabgcbjfkaa
