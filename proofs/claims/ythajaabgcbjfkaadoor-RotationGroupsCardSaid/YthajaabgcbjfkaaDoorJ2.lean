/- Contracts: within, Large; Contains and found in a row of quaternions; an element of integers. -/
import Derived.Test.YthajaabgcbjfkaaDoorT7
import Derived.Test.YthajaabgcbjfkaaDoorJ1
namespace Go.Proofs.YthajaabgcbjfkaaDoor
open Go.RowKit
attribute [local go_sem ↓] Go.wp_at_zero Go.wp_at_succ

def bigB (m n : Int) : Bool := decide (m < (n.natAbs : Int))
/-- No coordinate is greater in size than m. -/
def wB (m : Int) (a : Qt) : Bool := !(bigB m a.w || (bigB m a.x || (bigB m a.y || bigB m a.z)))
theorem wB_iff {m : Int} {a : Qt} : wB m a = true ↔ Qt.Bd m a := by
  unfold wB bigB Qt.Bd
  simp only [Bool.not_eq_true', Bool.or_eq_false_iff, decide_eq_false_iff_not]
  omega
set_option maxHeartbeats 1000000 in
theorem within1_any (m n : Int) (b : Nat) (w : World) (hn : -9223372036854775807 ≤ n ∧ n ≤ 9223372036854775807) (hb : w.cell? ⟨b, 0, none⟩ = some (.int .i64 m)) :
    Calls Tryd.prog 45 #[.int .i64 n, .pointer (some ⟨b, 0, none⟩)] w fun e w' => e = .returned (.bool (bigB m n)) ∧ Below w.heap.size w w' := by
  have AB := Lib.hid (fun w => abs_any n w hn.1 hn.2)
  have hbl : b < w.heap.size := World.block_lt_of_cell? w ⟨b, 0, none⟩ hb
  go_enter Tryd.func45, Tryd.ntmps45
  go_wp2_with fail
  (refine wp_region_quiet (C := Ext _) (by kernel_rfl) (by kernel_rfl) (Ext.start _) ?_; simp only []; (repeat (refine wpQuiet_step (fun K hK => ?_); go_simp; (try go_bits); apply Exists.intro; refine ⟨fun w' hw' => ?_, hK _ ?_⟩; (focus (first | with_reducible exact rfl | (go_at_call 46; (exact (AB.out w').mono (fun e w'' h => ⟨h.1, h.2 ▸ hw'⟩))) | (obtain ⟨gx, rfl⟩ := more_of_below (Ext.below hw'); go_simp; exact rfl))); clear hK K)); refine wpQuiet_nil ?_; intro w1 hw1; have hb1 := Ext.below hw1; clear hw1; obtain ⟨g1, rfl⟩ := more_of_below hb1; clear hb1)
  go_wp2_with fail
  go_ret
  exact ⟨rfl, by (repeat (first | with_reducible assumption | with_reducible exact Below.refl _ _ | with_reducible refine Below.drewN ?_ _ | with_reducible refine Below.drew ?_ | with_reducible refine Below.alloc ?_ (by first | omega | (simp; done) | (simp; omega)) _ | with_reducible refine Below.setCell ?_ (by first | omega | (simp; done) | (simp; omega)) _ | with_reducible refine below_more _ _ ?_ (by first | omega | (simp; done) | (simp; omega))))⟩
set_option maxRecDepth 10000 in
set_option maxHeartbeats 8000000 in
theorem containsFunc_any (m : Int) (a : Qt) (g b : Nat) (w : World) (ha : a.InR) (h0 : w.cell? ⟨g, 0, none⟩ = some (.int .i64 a.w)) (h1 : w.cell? ⟨g, 1, none⟩ = some (.int .i64 a.x)) (h2 : w.cell? ⟨g, 2, none⟩ = some (.int .i64 a.y)) (h3 : w.cell? ⟨g, 3, none⟩ = some (.int .i64 a.z)) (hb : w.cell? ⟨b, 0, none⟩ = some (.int .i64 m)) :
    Calls Tryd.prog 64 #[.slice (some ⟨g, 0, none⟩) 4 4, .func (.func 45) #[] #[.pointer (some ⟨b, 0, none⟩)]] w fun e w' => e = .returned (.int .i64 (if bigB m a.w then 0 else if bigB m a.x then 1 else if bigB m a.y then 2 else if bigB m a.z then 3 else -1)) ∧ Below w.heap.size w w' := by
  obtain ⟨a0, a1, a2, a3⟩ := ha
  have hgl : g < w.heap.size := World.block_lt_of_cell? w ⟨g, 0, none⟩ h0
  have hbl : b < w.heap.size := World.block_lt_of_cell? w ⟨b, 0, none⟩ hb
  have HB := Lib.hid hb
  have CL : Hid (∀ (n : Int) (W : World), -4000000000000000000 ≤ n → n ≤ 4000000000000000000 → Below w.heap.size w W → Calls Tryd.prog 45 #[.int .i64 n, .pointer (some ⟨b, 0, none⟩)] W fun e w' => e = .returned (.bool (bigB m n)) ∧ Below W.heap.size W w') :=
    fun n W n1 n2 hW => within1_any m n b W (by omega) ((hW.cell (p := ⟨b, 0, none⟩) hbl).trans HB.out)
  clear hb
  by_cases c0 : bigB m a.w = true
  · simp only [c0, if_true]
    go_enter Tryd.func64, Tryd.ntmps64
    go_wp2
    refine wp_loop_rounds 5 ?_
    repeat any_goals (rw [rounds_succ]; go_wp2_with (first | (go_at_call 45; (with_reducible refine (CL.out _ _ (by omega) (by omega) ?_).mono ?_); (focus ((repeat (first | with_reducible assumption | with_reducible exact Below.refl _ _ | with_reducible refine Below.drewN ?_ _ | with_reducible refine Below.drew ?_ | with_reducible refine Below.alloc ?_ (by first | omega | (simp; done) | (simp; omega)) _ | with_reducible refine Below.setCell ?_ (by first | omega | (simp; done) | (simp; omega)) _ | with_reducible refine below_more _ _ ?_ (by first | omega | (simp; done) | (simp; omega)))))); rintro e w1 ⟨rfl, hb1⟩; obtain ⟨g1, rfl⟩ := more_of_below hb1; clear hb1)))
    go_ret
    exact ⟨rfl, by (repeat (first | with_reducible assumption | with_reducible exact Below.refl _ _ | with_reducible refine Below.drewN ?_ _ | with_reducible refine Below.drew ?_ | with_reducible refine Below.alloc ?_ (by first | omega | (simp; done) | (simp; omega)) _ | with_reducible refine Below.setCell ?_ (by first | omega | (simp; done) | (simp; omega)) _ | with_reducible refine below_more _ _ ?_ (by first | omega | (simp; done) | (simp; omega))))⟩
  · have c0 : bigB m a.w = false := by simpa using c0
    by_cases c1 : bigB m a.x = true
    · simp only [c0, c1, if_true, Bool.false_eq_true, if_false]
      go_enter Tryd.func64, Tryd.ntmps64
      go_wp2
      refine wp_loop_rounds 5 ?_
      repeat any_goals (rw [rounds_succ]; go_wp2_with (first | (go_at_call 45; (with_reducible refine (CL.out _ _ (by omega) (by omega) ?_).mono ?_); (focus ((repeat (first | with_reducible assumption | with_reducible exact Below.refl _ _ | with_reducible refine Below.drewN ?_ _ | with_reducible refine Below.drew ?_ | with_reducible refine Below.alloc ?_ (by first | omega | (simp; done) | (simp; omega)) _ | with_reducible refine Below.setCell ?_ (by first | omega | (simp; done) | (simp; omega)) _ | with_reducible refine below_more _ _ ?_ (by first | omega | (simp; done) | (simp; omega)))))); rintro e w1 ⟨rfl, hb1⟩; obtain ⟨g1, rfl⟩ := more_of_below hb1; clear hb1)))
      go_ret
      exact ⟨rfl, by (repeat (first | with_reducible assumption | with_reducible exact Below.refl _ _ | with_reducible refine Below.drewN ?_ _ | with_reducible refine Below.drew ?_ | with_reducible refine Below.alloc ?_ (by first | omega | (simp; done) | (simp; omega)) _ | with_reducible refine Below.setCell ?_ (by first | omega | (simp; done) | (simp; omega)) _ | with_reducible refine below_more _ _ ?_ (by first | omega | (simp; done) | (simp; omega))))⟩
    · have c1 : bigB m a.x = false := by simpa using c1
      by_cases c2 : bigB m a.y = true
      · simp only [c0, c1, c2, if_true, Bool.false_eq_true, if_false]
        go_enter Tryd.func64, Tryd.ntmps64
        go_wp2
        refine wp_loop_rounds 5 ?_
        repeat any_goals (rw [rounds_succ]; go_wp2_with (first | (go_at_call 45; (with_reducible refine (CL.out _ _ (by omega) (by omega) ?_).mono ?_); (focus ((repeat (first | with_reducible assumption | with_reducible exact Below.refl _ _ | with_reducible refine Below.drewN ?_ _ | with_reducible refine Below.drew ?_ | with_reducible refine Below.alloc ?_ (by first | omega | (simp; done) | (simp; omega)) _ | with_reducible refine Below.setCell ?_ (by first | omega | (simp; done) | (simp; omega)) _ | with_reducible refine below_more _ _ ?_ (by first | omega | (simp; done) | (simp; omega)))))); rintro e w1 ⟨rfl, hb1⟩; obtain ⟨g1, rfl⟩ := more_of_below hb1; clear hb1)))
        go_ret
        exact ⟨rfl, by (repeat (first | with_reducible assumption | with_reducible exact Below.refl _ _ | with_reducible refine Below.drewN ?_ _ | with_reducible refine Below.drew ?_ | with_reducible refine Below.alloc ?_ (by first | omega | (simp; done) | (simp; omega)) _ | with_reducible refine Below.setCell ?_ (by first | omega | (simp; done) | (simp; omega)) _ | with_reducible refine below_more _ _ ?_ (by first | omega | (simp; done) | (simp; omega))))⟩
      · have c2 : bigB m a.y = false := by simpa using c2
        by_cases c3 : bigB m a.z = true
        · simp only [c0, c1, c2, c3, if_true, Bool.false_eq_true, if_false]
          go_enter Tryd.func64, Tryd.ntmps64
          go_wp2
          refine wp_loop_rounds 5 ?_
          repeat any_goals (rw [rounds_succ]; go_wp2_with (first | (go_at_call 45; (with_reducible refine (CL.out _ _ (by omega) (by omega) ?_).mono ?_); (focus ((repeat (first | with_reducible assumption | with_reducible exact Below.refl _ _ | with_reducible refine Below.drewN ?_ _ | with_reducible refine Below.drew ?_ | with_reducible refine Below.alloc ?_ (by first | omega | (simp; done) | (simp; omega)) _ | with_reducible refine Below.setCell ?_ (by first | omega | (simp; done) | (simp; omega)) _ | with_reducible refine below_more _ _ ?_ (by first | omega | (simp; done) | (simp; omega)))))); rintro e w1 ⟨rfl, hb1⟩; obtain ⟨g1, rfl⟩ := more_of_below hb1; clear hb1)))
          go_ret
          exact ⟨rfl, by (repeat (first | with_reducible assumption | with_reducible exact Below.refl _ _ | with_reducible refine Below.drewN ?_ _ | with_reducible refine Below.drew ?_ | with_reducible refine Below.alloc ?_ (by first | omega | (simp; done) | (simp; omega)) _ | with_reducible refine Below.setCell ?_ (by first | omega | (simp; done) | (simp; omega)) _ | with_reducible refine below_more _ _ ?_ (by first | omega | (simp; done) | (simp; omega))))⟩
        · have c3 : bigB m a.z = false := by simpa using c3
          simp only [c0, c1, c2, c3, Bool.false_eq_true, if_false]
          go_enter Tryd.func64, Tryd.ntmps64
          go_wp2
          refine wp_loop_rounds 5 ?_
          repeat any_goals (rw [rounds_succ]; go_wp2_with (first | (go_at_call 45; (with_reducible refine (CL.out _ _ (by omega) (by omega) ?_).mono ?_); (focus ((repeat (first | with_reducible assumption | with_reducible exact Below.refl _ _ | with_reducible refine Below.drewN ?_ _ | with_reducible refine Below.drew ?_ | with_reducible refine Below.alloc ?_ (by first | omega | (simp; done) | (simp; omega)) _ | with_reducible refine Below.setCell ?_ (by first | omega | (simp; done) | (simp; omega)) _ | with_reducible refine below_more _ _ ?_ (by first | omega | (simp; done) | (simp; omega)))))); rintro e w1 ⟨rfl, hb1⟩; obtain ⟨g1, rfl⟩ := more_of_below hb1; clear hb1)))
          go_ret
          exact ⟨rfl, by (repeat (first | with_reducible assumption | with_reducible exact Below.refl _ _ | with_reducible refine Below.drewN ?_ _ | with_reducible refine Below.drew ?_ | with_reducible refine Below.alloc ?_ (by first | omega | (simp; done) | (simp; omega)) _ | with_reducible refine Below.setCell ?_ (by first | omega | (simp; done) | (simp; omega)) _ | with_reducible refine below_more _ _ ?_ (by first | omega | (simp; done) | (simp; omega))))⟩
set_option maxRecDepth 10000 in
set_option maxHeartbeats 4000000 in
theorem qwithin_any (m : Int) (a : Qt) (ha : a.InR) (w : World) :
    Calls Tryd.prog 20 #[.agg #[.int .i64 a.w, .int .i64 a.x, .int .i64 a.y, .int .i64 a.z], .int .i64 m] w fun e w' => e = .returned (.bool (wB m a)) ∧ Below w.heap.size w w' := by
  have CF : Hid (∀ (g b : Nat) (W : World), W.cell? ⟨g, 0, none⟩ = some (.int .i64 a.w) → W.cell? ⟨g, 1, none⟩ = some (.int .i64 a.x) → W.cell? ⟨g, 2, none⟩ = some (.int .i64 a.y) → W.cell? ⟨g, 3, none⟩ = some (.int .i64 a.z) → W.cell? ⟨b, 0, none⟩ = some (.int .i64 m) →
      Calls Tryd.prog 44 #[.slice (some ⟨g, 0, none⟩) 4 4, .func (.func 45) #[] #[.pointer (some ⟨b, 0, none⟩)]] W fun e w' => e = .returned (.bool (!wB m a)) ∧ Below W.heap.size W w') := fun g b W h0 h1 h2 h3 hb => by
    have IN := Lib.hid (containsFunc_any m a g b W ha h0 h1 h2 h3 hb)
    have hr : ∃ r : Int, (if bigB m a.w then 0 else if bigB m a.x then 1 else if bigB m a.y then 2 else if bigB m a.z then 3 else -1) = r ∧ decide (0 ≤ r) = !wB m a := by
      refine ⟨_, rfl, ?_⟩
      unfold wB
      cases bigB m a.w <;> cases bigB m a.x <;> cases bigB m a.y <;> cases bigB m a.z <;> decide
    obtain ⟨r, hr1, hr2⟩ := hr
    rw [hr1] at IN
    generalize wB m a = c at *
    clear hr1 h0 h1 h2 h3 hb
    go_enter Tryd.func44, Tryd.ntmps44
    go_wp2_with (first | (go_at_call 64; with_reducible refine (IN.out).mono ?_; rintro e w1 ⟨rfl, hb1⟩; obtain ⟨g1, rfl⟩ := more_of_below hb1; clear hb1))
    go_ret
    exact ⟨by simp, by (repeat (first | with_reducible assumption | with_reducible exact Below.refl _ _ | with_reducible refine Below.drewN ?_ _ | with_reducible refine Below.drew ?_ | with_reducible refine Below.alloc ?_ (by first | omega | (simp; done) | (simp; omega)) _ | with_reducible refine Below.setCell ?_ (by first | omega | (simp; done) | (simp; omega)) _ | with_reducible refine below_more _ _ ?_ (by first | omega | (simp; done) | (simp; omega))))⟩
  generalize wB m a = c at *
  clear ha
  go_enter Tryd.func20, Tryd.ntmps20
  go_wp2_with (first | (go_at_call 44; (with_reducible refine (CF.out _ _ _ ?_ ?_ ?_ ?_ ?_).mono ?_); (focus (go_simp; done)); (focus (go_simp; done)); (focus (go_simp; done)); (focus (go_simp; done)); (focus (go_simp; done)); rintro e w1 ⟨rfl, hb1⟩; obtain ⟨g1, rfl⟩ := more_of_below hb1; clear hb1))
  go_ret
  exact ⟨by simp, by (repeat (first | with_reducible assumption | with_reducible exact Below.refl _ _ | with_reducible refine Below.drewN ?_ _ | with_reducible refine Below.drew ?_ | with_reducible refine Below.alloc ?_ (by first | omega | (simp; done) | (simp; omega)) _ | with_reducible refine Below.setCell ?_ (by first | omega | (simp; done) | (simp; omega)) _ | with_reducible refine below_more _ _ ?_ (by first | omega | (simp; done) | (simp; omega))))⟩
set_option maxHeartbeats 2000000 in
theorem qindex_in (L : List Qt) (g cap j : Nat) (q : Qt) (hl : L.length < 1000000) (hj : L[j]? = some q) (hn : ∀ i, i < j → L[i]? ≠ some q) (w : World) (hg : g < w.heap.size) (hc : ∀ k q, L[k]? = some q → H4 w g k q) :
    Calls Tryd.prog 43 #[.slice (some ⟨g, 0, none⟩) L.length cap, .agg #[.int .i64 q.w, .int .i64 q.x, .int .i64 q.y, .int .i64 q.z]] w fun e w' => e = .returned (.int .i64 ((j : Int))) ∧ Below w.heap.size w w' := by
  have HC : Hid (∀ k q, L[k]? = some q → H4 w g k q) := hc
  clear hc
  have hjl : j < L.length := (List.getElem?_eq_some_iff.1 hj).1
  have HJ := Lib.hid hj
  have HN0 : Hid (∀ i, i < j → L[i]? ≠ some q) := hn
  clear hj hn
  obtain ⟨n, hn⟩ : ∃ n, n = L.length := ⟨_, rfl⟩
  have HN := Lib.hid hn
  rw [← hn] at hl hjl ⊢
  clear hn
  go_enter Tryd.func43, Tryd.ntmps43
  go_wp2
  go_loopw [8] (fun i wr => ∃ k : Nat, k ≤ j ∧ i = .int .i64 k ∧ Ext (w.alloc (.cells #[.int .i64 q.w, .int .i64 q.x, .int .i64 q.y, .int .i64 q.z] 54)) wr) (fun i _ => n - (intOf i).toNat)
  case atStart => exact ⟨0, by omega, rfl, Ext.refl _⟩
  case round =>
    obtain ⟨k, hk, rfl, hext⟩ := hrel
    obtain ⟨gx, rfl⟩ := more_of_below (Ext.below hext)
    clear hext
    by_cases hlt : k < j
    · obtain ⟨p, hp⟩ : ∃ p, L[k]? = some p := ⟨L[k]'(by rw [← HN.out]; omega), List.getElem?_eq_getElem _⟩
      have hpq : ¬ p = q := fun e => HN0.out k hlt (by rw [hp, e])
      obtain ⟨p0, p1, p2, p3⟩ := HC.out k p hp
      clear hp
      have kn : (k : Int) < (n : Int) := by omega
      have hE : Qt.eqb ⟨q.w, q.x, q.y, q.z⟩ ⟨p.w, p.x, p.y, p.z⟩ = false := by
        rw [← Bool.not_eq_true, Qt.eqb_iff]; exact fun e => hpq e.symm
      have hE2 : Qt.eqb ⟨p.w, p.x, p.y, p.z⟩ ⟨q.w, q.x, q.y, q.z⟩ = false := by
        rw [← Bool.not_eq_true, Qt.eqb_iff]; exact fun e => hpq e
      clear hpq
      go_wp2
      go_region
      go_wp2
      go_roundw
      case rel => exact ⟨k + 1, by omega, by go_num, ext_mk (by (repeat (first | with_reducible assumption | with_reducible exact Below.refl _ _ | with_reducible refine Below.drewN ?_ _ | with_reducible refine Below.drew ?_ | with_reducible refine Below.alloc ?_ (by first | omega | (simp; done) | (simp; omega)) _ | with_reducible refine Below.setCell ?_ (by first | omega | (simp; done) | (simp; omega)) _ | with_reducible refine below_more _ _ ?_ (by first | omega | (simp; done) | (simp; omega)))))⟩
      case measure => simp [intOf]; omega
    · obtain rfl : k = j := by omega
      obtain ⟨p0, p1, p2, p3⟩ := HC.out k q HJ.out
      have kn : (k : Int) < (n : Int) := by omega
      have hE : Qt.eqb ⟨q.w, q.x, q.y, q.z⟩ ⟨q.w, q.x, q.y, q.z⟩ = true := Qt.eqb_iff.2 rfl
      go_wp2
      go_region
      go_wp2
      go_ret
      exact ⟨rfl, by (repeat (first | with_reducible assumption | with_reducible exact Below.refl _ _ | with_reducible refine Below.drewN ?_ _ | with_reducible refine Below.drew ?_ | with_reducible refine Below.alloc ?_ (by first | omega | (simp; done) | (simp; omega)) _ | with_reducible refine Below.setCell ?_ (by first | omega | (simp; done) | (simp; omega)) _ | with_reducible refine below_more _ _ ?_ (by first | omega | (simp; done) | (simp; omega))))⟩
set_option maxHeartbeats 2000000 in
theorem qindex_no (L : List Qt) (g cap : Nat) (q : Qt) (hl : L.length < 1000000) (hn : q ∉ L) (w : World) (hg : g < w.heap.size) (hc : ∀ k q, L[k]? = some q → H4 w g k q) :
    Calls Tryd.prog 43 #[.slice (some ⟨g, 0, none⟩) L.length cap, .agg #[.int .i64 q.w, .int .i64 q.x, .int .i64 q.y, .int .i64 q.z]] w fun e w' => e = .returned (.int .i64 (-1)) ∧ Below w.heap.size w w' := by
  have HC : Hid (∀ k q, L[k]? = some q → H4 w g k q) := hc
  have HN0 : Hid (q ∉ L) := hn
  clear hc hn
  obtain ⟨n, hn⟩ : ∃ n, n = L.length := ⟨_, rfl⟩
  have HN := Lib.hid hn
  rw [← hn] at hl ⊢
  clear hn
  go_enter Tryd.func43, Tryd.ntmps43
  go_wp2
  go_loopw [8] (fun i wr => ∃ k : Nat, k ≤ n ∧ i = .int .i64 k ∧ Ext (w.alloc (.cells #[.int .i64 q.w, .int .i64 q.x, .int .i64 q.y, .int .i64 q.z] 54)) wr) (fun i _ => n - (intOf i).toNat)
  case atStart => exact ⟨0, by omega, rfl, Ext.refl _⟩
  case round =>
    obtain ⟨k, hk, rfl, hext⟩ := hrel
    obtain ⟨gx, rfl⟩ := more_of_below (Ext.below hext)
    clear hext
    by_cases hlt : k < n
    · obtain ⟨p, hp⟩ : ∃ p, L[k]? = some p := ⟨L[k]'(by rw [← HN.out]; omega), List.getElem?_eq_getElem _⟩
      have hpq : ¬ p = q := fun e => HN0.out (e ▸ List.mem_of_getElem? hp)
      obtain ⟨p0, p1, p2, p3⟩ := HC.out k p hp
      clear hp
      have kn : (k : Int) < (n : Int) := by omega
      have hE : Qt.eqb ⟨q.w, q.x, q.y, q.z⟩ ⟨p.w, p.x, p.y, p.z⟩ = false := by
        rw [← Bool.not_eq_true, Qt.eqb_iff]; exact fun e => hpq e.symm
      have hE2 : Qt.eqb ⟨p.w, p.x, p.y, p.z⟩ ⟨q.w, q.x, q.y, q.z⟩ = false := by
        rw [← Bool.not_eq_true, Qt.eqb_iff]; exact fun e => hpq e
      clear hpq
      go_wp2
      go_region
      go_wp2
      go_roundw
      case rel => exact ⟨k + 1, by omega, by go_num, ext_mk (by (repeat (first | with_reducible assumption | with_reducible exact Below.refl _ _ | with_reducible refine Below.drewN ?_ _ | with_reducible refine Below.drew ?_ | with_reducible refine Below.alloc ?_ (by first | omega | (simp; done) | (simp; omega)) _ | with_reducible refine Below.setCell ?_ (by first | omega | (simp; done) | (simp; omega)) _ | with_reducible refine below_more _ _ ?_ (by first | omega | (simp; done) | (simp; omega)))))⟩
      case measure => simp [intOf]; omega
    · obtain rfl : k = n := by omega
      go_wp2
      go_ret
      exact ⟨rfl, by (repeat (first | with_reducible assumption | with_reducible exact Below.refl _ _ | with_reducible refine Below.drewN ?_ _ | with_reducible refine Below.drew ?_ | with_reducible refine Below.alloc ?_ (by first | omega | (simp; done) | (simp; omega)) _ | with_reducible refine Below.setCell ?_ (by first | omega | (simp; done) | (simp; omega)) _ | with_reducible refine below_more _ _ ?_ (by first | omega | (simp; done) | (simp; omega))))⟩
set_option maxHeartbeats 2000000 in
theorem rfound_in (L : List Qt) (g cap j : Nat) (q : Qt) (hl : L.length < 1000000) (hj : L[j]? = some q) (hn : ∀ i, i < j → L[i]? ≠ some q) (w : World) (hg : g < w.heap.size) (hc : ∀ k q, L[k]? = some q → H4 w g k q) :
    Calls Tryd.prog 29 #[.slice (some ⟨g, 0, none⟩) L.length cap, .agg #[.int .i64 q.w, .int .i64 q.x, .int .i64 q.y, .int .i64 q.z]] w fun e w' => e = .returned (.int .i64 ((j : Int))) ∧ Below w.heap.size w w' := by
  have HC : Hid (∀ k q, L[k]? = some q → H4 w g k q) := hc
  clear hc
  have hjl : j < L.length := (List.getElem?_eq_some_iff.1 hj).1
  have HJ := Lib.hid hj
  have HN0 : Hid (∀ i, i < j → L[i]? ≠ some q) := hn
  clear hj hn
  obtain ⟨n, hn⟩ : ∃ n, n = L.length := ⟨_, rfl⟩
  have HN := Lib.hid hn
  rw [← hn] at hl hjl ⊢
  clear hn
  go_enter Tryd.func29, Tryd.ntmps29
  go_wp2
  go_loopw [5] (fun i wr => ∃ k : Nat, k ≤ j ∧ i = .int .i64 k ∧ Ext (w.alloc (.cells #[.int .i64 q.w, .int .i64 q.x, .int .i64 q.y, .int .i64 q.z] 35)) wr) (fun i _ => n - (intOf i).toNat)
  case atStart => exact ⟨0, by omega, rfl, Ext.refl _⟩
  case round =>
    obtain ⟨k, hk, rfl, hext⟩ := hrel
    obtain ⟨gx, rfl⟩ := more_of_below (Ext.below hext)
    clear hext
    by_cases hlt : k < j
    · obtain ⟨p, hp⟩ : ∃ p, L[k]? = some p := ⟨L[k]'(by rw [← HN.out]; omega), List.getElem?_eq_getElem _⟩
      have hpq : ¬ p = q := fun e => HN0.out k hlt (by rw [hp, e])
      obtain ⟨p0, p1, p2, p3⟩ := HC.out k p hp
      clear hp
      have kn : (k : Int) < (n : Int) := by omega
      have hE : Qt.eqb ⟨q.w, q.x, q.y, q.z⟩ ⟨p.w, p.x, p.y, p.z⟩ = false := by
        rw [← Bool.not_eq_true, Qt.eqb_iff]; exact fun e => hpq e.symm
      have hE2 : Qt.eqb ⟨p.w, p.x, p.y, p.z⟩ ⟨q.w, q.x, q.y, q.z⟩ = false := by
        rw [← Bool.not_eq_true, Qt.eqb_iff]; exact fun e => hpq e
      clear hpq
      go_wp2
      go_region
      go_wp2
      go_roundw
      case rel => exact ⟨k + 1, by omega, by go_num, ext_mk (by (repeat (first | with_reducible assumption | with_reducible exact Below.refl _ _ | with_reducible refine Below.drewN ?_ _ | with_reducible refine Below.drew ?_ | with_reducible refine Below.alloc ?_ (by first | omega | (simp; done) | (simp; omega)) _ | with_reducible refine Below.setCell ?_ (by first | omega | (simp; done) | (simp; omega)) _ | with_reducible refine below_more _ _ ?_ (by first | omega | (simp; done) | (simp; omega)))))⟩
      case measure => simp [intOf]; omega
    · obtain rfl : k = j := by omega
      obtain ⟨p0, p1, p2, p3⟩ := HC.out k q HJ.out
      have kn : (k : Int) < (n : Int) := by omega
      have hE : Qt.eqb ⟨q.w, q.x, q.y, q.z⟩ ⟨q.w, q.x, q.y, q.z⟩ = true := Qt.eqb_iff.2 rfl
      go_wp2
      go_region
      go_wp2
      go_ret
      exact ⟨rfl, by (repeat (first | with_reducible assumption | with_reducible exact Below.refl _ _ | with_reducible refine Below.drewN ?_ _ | with_reducible refine Below.drew ?_ | with_reducible refine Below.alloc ?_ (by first | omega | (simp; done) | (simp; omega)) _ | with_reducible refine Below.setCell ?_ (by first | omega | (simp; done) | (simp; omega)) _ | with_reducible refine below_more _ _ ?_ (by first | omega | (simp; done) | (simp; omega))))⟩
set_option maxHeartbeats 2000000 in
theorem rfound_no (L : List Qt) (g cap : Nat) (q : Qt) (hl : L.length < 1000000) (hn : q ∉ L) (w : World) (hg : g < w.heap.size) (hc : ∀ k q, L[k]? = some q → H4 w g k q) :
    Calls Tryd.prog 29 #[.slice (some ⟨g, 0, none⟩) L.length cap, .agg #[.int .i64 q.w, .int .i64 q.x, .int .i64 q.y, .int .i64 q.z]] w fun e w' => e = .returned (.int .i64 (-1)) ∧ Below w.heap.size w w' := by
  have HC : Hid (∀ k q, L[k]? = some q → H4 w g k q) := hc
  have HN0 : Hid (q ∉ L) := hn
  clear hc hn
  obtain ⟨n, hn⟩ : ∃ n, n = L.length := ⟨_, rfl⟩
  have HN := Lib.hid hn
  rw [← hn] at hl ⊢
  clear hn
  go_enter Tryd.func29, Tryd.ntmps29
  go_wp2
  go_loopw [5] (fun i wr => ∃ k : Nat, k ≤ n ∧ i = .int .i64 k ∧ Ext (w.alloc (.cells #[.int .i64 q.w, .int .i64 q.x, .int .i64 q.y, .int .i64 q.z] 35)) wr) (fun i _ => n - (intOf i).toNat)
  case atStart => exact ⟨0, by omega, rfl, Ext.refl _⟩
  case round =>
    obtain ⟨k, hk, rfl, hext⟩ := hrel
    obtain ⟨gx, rfl⟩ := more_of_below (Ext.below hext)
    clear hext
    by_cases hlt : k < n
    · obtain ⟨p, hp⟩ : ∃ p, L[k]? = some p := ⟨L[k]'(by rw [← HN.out]; omega), List.getElem?_eq_getElem _⟩
      have hpq : ¬ p = q := fun e => HN0.out (e ▸ List.mem_of_getElem? hp)
      obtain ⟨p0, p1, p2, p3⟩ := HC.out k p hp
      clear hp
      have kn : (k : Int) < (n : Int) := by omega
      have hE : Qt.eqb ⟨q.w, q.x, q.y, q.z⟩ ⟨p.w, p.x, p.y, p.z⟩ = false := by
        rw [← Bool.not_eq_true, Qt.eqb_iff]; exact fun e => hpq e.symm
      have hE2 : Qt.eqb ⟨p.w, p.x, p.y, p.z⟩ ⟨q.w, q.x, q.y, q.z⟩ = false := by
        rw [← Bool.not_eq_true, Qt.eqb_iff]; exact fun e => hpq e
      clear hpq
      go_wp2
      go_region
      go_wp2
      go_roundw
      case rel => exact ⟨k + 1, by omega, by go_num, ext_mk (by (repeat (first | with_reducible assumption | with_reducible exact Below.refl _ _ | with_reducible refine Below.drewN ?_ _ | with_reducible refine Below.drew ?_ | with_reducible refine Below.alloc ?_ (by first | omega | (simp; done) | (simp; omega)) _ | with_reducible refine Below.setCell ?_ (by first | omega | (simp; done) | (simp; omega)) _ | with_reducible refine below_more _ _ ?_ (by first | omega | (simp; done) | (simp; omega)))))⟩
      case measure => simp [intOf]; omega
    · obtain rfl : k = n := by omega
      go_wp2
      go_ret
      exact ⟨rfl, by (repeat (first | with_reducible assumption | with_reducible exact Below.refl _ _ | with_reducible refine Below.drewN ?_ _ | with_reducible refine Below.drew ?_ | with_reducible refine Below.alloc ?_ (by first | omega | (simp; done) | (simp; omega)) _ | with_reducible refine Below.setCell ?_ (by first | omega | (simp; done) | (simp; omega)) _ | with_reducible refine below_more _ _ ?_ (by first | omega | (simp; done) | (simp; omega))))⟩
theorem first_at {L : List Qt} {q : Qt} (h : q ∈ L) : ∃ j : Nat, L[j]? = some q ∧ ∀ i : Nat, i < j → L[i]? ≠ some q := by
  induction L with
  | nil => simp at h
  | cons a L ih =>
    by_cases e : a = q
    · exact ⟨0, by rw [e]; rfl, fun i hi => by omega⟩
    · have hq : q ∈ L := by
        rcases List.mem_cons.1 h with h | h
        · exact absurd h.symm e
        · exact h
      obtain ⟨j, h1, h2⟩ := ih hq
      refine ⟨j + 1, by simpa using h1, fun i hi => ?_⟩
      match i with
      | 0 => simpa using e
      | i + 1 => simpa using h2 i (by omega)
set_option maxHeartbeats 1000000 in
theorem contains_any (L : List Qt) (g cap : Nat) (q : Qt) (hl : L.length < 1000000) (b : Bool) (hb : b = true ↔ q ∈ L) (w : World) (hg : g < w.heap.size) (hc : ∀ k q, L[k]? = some q → H4 w g k q) :
    Calls Tryd.prog 19 #[.slice (some ⟨g, 0, none⟩) L.length cap, .agg #[.int .i64 q.w, .int .i64 q.x, .int .i64 q.y, .int .i64 q.z]] w fun e w' => e = .returned (.bool b) ∧ Below w.heap.size w w' := by
  have hw : Below w.heap.size w (w.alloc (.cells #[.int .i64 q.w, .int .i64 q.x, .int .i64 q.y, .int .i64 q.z] 54)) := Below.alloc (Below.refl _ _) (Nat.le_refl _) _
  have hc' : ∀ k p, L[k]? = some p → H4 (w.alloc (.cells #[.int .i64 q.w, .int .i64 q.x, .int .i64 q.y, .int .i64 q.z] 54)) g k p := fun k p hp => (hc k p hp).below hw hg
  have hg' : g < (w.alloc (.cells #[.int .i64 q.w, .int .i64 q.x, .int .i64 q.y, .int .i64 q.z] 54)).heap.size := Nat.lt_of_lt_of_le hg hw.size
  cases b
  · have IN := Lib.hid (qindex_no L g cap q hl (fun h => by have := hb.2 h; cases this) _ hg' hc')
    clear hc hc' hb
    go_enter Tryd.func19, Tryd.ntmps19
    go_wp2_with (first | (go_at_call 43; with_reducible refine (IN.out).mono ?_; rintro e w1 ⟨rfl, hb1⟩; obtain ⟨g1, rfl⟩ := more_of_below hb1; clear hb1))
    go_ret
    exact ⟨rfl, by (repeat (first | with_reducible assumption | with_reducible exact Below.refl _ _ | with_reducible refine Below.drewN ?_ _ | with_reducible refine Below.drew ?_ | with_reducible refine Below.alloc ?_ (by first | omega | (simp; done) | (simp; omega)) _ | with_reducible refine Below.setCell ?_ (by first | omega | (simp; done) | (simp; omega)) _ | with_reducible refine below_more _ _ ?_ (by first | omega | (simp; done) | (simp; omega))))⟩
  · obtain ⟨j, h1, h2⟩ := first_at (hb.1 rfl)
    have IN := Lib.hid (qindex_in L g cap j q hl h1 h2 _ hg' hc')
    clear hc hc' hb h1 h2
    go_enter Tryd.func19, Tryd.ntmps19
    go_wp2_with (first | (go_at_call 43; with_reducible refine (IN.out).mono ?_; rintro e w1 ⟨rfl, hb1⟩; obtain ⟨g1, rfl⟩ := more_of_below hb1; clear hb1))
    go_ret
    exact ⟨rfl, by (repeat (first | with_reducible assumption | with_reducible exact Below.refl _ _ | with_reducible refine Below.drewN ?_ _ | with_reducible refine Below.drew ?_ | with_reducible refine Below.alloc ?_ (by first | omega | (simp; done) | (simp; omega)) _ | with_reducible refine Below.setCell ?_ (by first | omega | (simp; done) | (simp; omega)) _ | with_reducible refine below_more _ _ ?_ (by first | omega | (simp; done) | (simp; omega))))⟩
set_option maxHeartbeats 1000000 in
theorem qquat_any (a : Qt) (w : World) :
    Calls Tryd.prog 23 #[.agg #[.int .i64 a.w, .int .i64 a.x, .int .i64 a.y, .int .i64 a.z]] w fun e w' => e = .returned (.agg #[.int .i64 a.w, .int .i64 a.x, .int .i64 a.y, .int .i64 a.z, .int .i64 1]) ∧ Below w.heap.size w w' := by
  go_enter Tryd.func23, Tryd.ntmps23
  go_wp2
  refine bodyPost_ret (v := .agg #[.int .i64 a.w, .int .i64 a.x, .int .i64 a.y, .int .i64 a.z, .int .i64 1]) (by simp [results, Tryd.results23, go_sem]) rfl ⟨rfl, by (repeat (first | with_reducible assumption | with_reducible exact Below.refl _ _ | with_reducible refine Below.drewN ?_ _ | with_reducible refine Below.drew ?_ | with_reducible refine Below.alloc ?_ (by first | omega | (simp; done) | (simp; omega)) _ | with_reducible refine Below.setCell ?_ (by first | omega | (simp; done) | (simp; omega)) _ | with_reducible refine below_more _ _ ?_ (by first | omega | (simp; done) | (simp; omega))))⟩
theorem conj_InR {a : Qt} (h : a.InR) : a.conj.InR := by
  obtain ⟨h0, h1, h2, h3⟩ := h
  exact ⟨h0, by show _ ≤ -a.x ∧ -a.x ≤ _; omega, by show _ ≤ -a.y ∧ -a.y ≤ _; omega, by show _ ≤ -a.z ∧ -a.z ≤ _; omega⟩
theorem serr_ok {q : Qd} (h : q.serr = 0) : q.okb = true ∧ Qt.Nz q.num := by
  rcases q.serr_cases with ⟨_, e⟩ | ⟨_, _, e⟩ | ⟨h1, h2, _⟩
  · rw [h] at e; exact absurd e (by decide)
  · rw [h] at e; exact absurd e (by decide)
  · exact ⟨h1, h2⟩
theorem serr_InR {q : Qd} (h : q.serr = 0) : q.num.red.InR := by
  obtain ⟨h1, h2⟩ := serr_ok h
  have h3 := (Qt.red_nrm h2).2
  have h4 := Qd.num_nrm h1
  exact Qt.inR_of_nrm (by omega)
theorem serr_nrd {q : Qd} (h : q.serr = 0) : Qt.Nrd q.num.red := Qt.red_nrd (serr_ok h).2
theorem serr_g4c {q : Qd} (h : q.serr = 0) : 1 ≤ g4 q.num.red.conj.w q.num.red.conj.x q.num.red.conj.y q.num.red.conj.z := g4_pos (Qt.nz_conj (Qt.nrd_nz (serr_nrd h)))
end Go.Proofs.YthajaabgcbjfkaaDoor
