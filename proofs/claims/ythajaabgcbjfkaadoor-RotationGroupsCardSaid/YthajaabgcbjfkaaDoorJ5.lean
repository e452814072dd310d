/- Contracts of the reference: Large, Letter, GensErr. -/
import Derived.Test.YthajaabgcbjfkaaDoorJ4
namespace Go.Proofs.YthajaabgcbjfkaaDoor
open Go.RowKit Go.BigFrame
attribute [local go_sem ↓] Go.wp_at_zero Go.wp_at_succ

set_option maxRecDepth 10000 in
set_option maxHeartbeats 8000000 in
theorem rlarge_any (m : Int) (a : Qt) (ha : a.InR) (w : World) :
    Calls Tryd.prog 25 #[.agg #[.int .i64 a.w, .int .i64 a.x, .int .i64 a.y, .int .i64 a.z], .int .i64 m] w fun e w' => e = .returned (.bool (!wB m a)) ∧ Below w.heap.size w w' := by
  obtain ⟨a0, a1, a2, a3⟩ := ha
  unfold wB bigB
  by_cases c0 : m < (a.w.natAbs : Int)
  · have d0 : decide (m < (a.w.natAbs : Int)) = true := by simpa using c0
    simp only [d0, Bool.true_or, Bool.not_true, Bool.not_false]
    go_enter Tryd.func25, Tryd.ntmps25
    go_wp2
    refine wp_loop_rounds 5 ?_
    repeat any_goals (rw [rounds_succ]; go_wp2_with (first | (go_at_call 51; refine (rabs_any _ _ (by omega) (by omega)).mono ?_; rintro e w' ⟨rfl, rfl⟩)))
    go_ret
    exact ⟨rfl, by (repeat (first | with_reducible assumption | with_reducible exact Below.refl _ _ | with_reducible refine Below.drewN ?_ _ | with_reducible refine Below.drew ?_ | with_reducible refine Below.alloc ?_ (by first | omega | (simp; done) | (simp; omega)) _ | with_reducible refine Below.setCell ?_ (by first | omega | (simp; done) | (simp; omega)) _ | with_reducible refine below_more _ _ ?_ (by first | omega | (simp; done) | (simp; omega))))⟩
  · have d0 : decide (m < (a.w.natAbs : Int)) = false := by simpa using c0
    by_cases c1 : m < (a.x.natAbs : Int)
    · have d1 : decide (m < (a.x.natAbs : Int)) = true := by simpa using c1
      simp only [d0, d1, Bool.true_or, Bool.false_or, Bool.not_true, Bool.not_false]
      go_enter Tryd.func25, Tryd.ntmps25
      go_wp2
      refine wp_loop_rounds 5 ?_
      repeat any_goals (rw [rounds_succ]; go_wp2_with (first | (go_at_call 51; refine (rabs_any _ _ (by omega) (by omega)).mono ?_; rintro e w' ⟨rfl, rfl⟩)))
      go_ret
      exact ⟨rfl, by (repeat (first | with_reducible assumption | with_reducible exact Below.refl _ _ | with_reducible refine Below.drewN ?_ _ | with_reducible refine Below.drew ?_ | with_reducible refine Below.alloc ?_ (by first | omega | (simp; done) | (simp; omega)) _ | with_reducible refine Below.setCell ?_ (by first | omega | (simp; done) | (simp; omega)) _ | with_reducible refine below_more _ _ ?_ (by first | omega | (simp; done) | (simp; omega))))⟩
    · have d1 : decide (m < (a.x.natAbs : Int)) = false := by simpa using c1
      by_cases c2 : m < (a.y.natAbs : Int)
      · have d2 : decide (m < (a.y.natAbs : Int)) = true := by simpa using c2
        simp only [d0, d1, d2, Bool.true_or, Bool.false_or, Bool.not_true, Bool.not_false]
        go_enter Tryd.func25, Tryd.ntmps25
        go_wp2
        refine wp_loop_rounds 5 ?_
        repeat any_goals (rw [rounds_succ]; go_wp2_with (first | (go_at_call 51; refine (rabs_any _ _ (by omega) (by omega)).mono ?_; rintro e w' ⟨rfl, rfl⟩)))
        go_ret
        exact ⟨rfl, by (repeat (first | with_reducible assumption | with_reducible exact Below.refl _ _ | with_reducible refine Below.drewN ?_ _ | with_reducible refine Below.drew ?_ | with_reducible refine Below.alloc ?_ (by first | omega | (simp; done) | (simp; omega)) _ | with_reducible refine Below.setCell ?_ (by first | omega | (simp; done) | (simp; omega)) _ | with_reducible refine below_more _ _ ?_ (by first | omega | (simp; done) | (simp; omega))))⟩
      · have d2 : decide (m < (a.y.natAbs : Int)) = false := by simpa using c2
        by_cases c3 : m < (a.z.natAbs : Int)
        · have d3 : decide (m < (a.z.natAbs : Int)) = true := by simpa using c3
          simp only [d0, d1, d2, d3, Bool.false_or, Bool.not_true, Bool.not_false]
          go_enter Tryd.func25, Tryd.ntmps25
          go_wp2
          refine wp_loop_rounds 5 ?_
          repeat any_goals (rw [rounds_succ]; go_wp2_with (first | (go_at_call 51; refine (rabs_any _ _ (by omega) (by omega)).mono ?_; rintro e w' ⟨rfl, rfl⟩)))
          go_ret
          exact ⟨rfl, by (repeat (first | with_reducible assumption | with_reducible exact Below.refl _ _ | with_reducible refine Below.drewN ?_ _ | with_reducible refine Below.drew ?_ | with_reducible refine Below.alloc ?_ (by first | omega | (simp; done) | (simp; omega)) _ | with_reducible refine Below.setCell ?_ (by first | omega | (simp; done) | (simp; omega)) _ | with_reducible refine below_more _ _ ?_ (by first | omega | (simp; done) | (simp; omega))))⟩
        · have d3 : decide (m < (a.z.natAbs : Int)) = false := by simpa using c3
          simp only [d0, d1, d2, d3, Bool.false_or, Bool.not_true, Bool.not_false]
          go_enter Tryd.func25, Tryd.ntmps25
          go_wp2
          refine wp_loop_rounds 5 ?_
          repeat any_goals (rw [rounds_succ]; go_wp2_with (first | (go_at_call 51; refine (rabs_any _ _ (by omega) (by omega)).mono ?_; rintro e w' ⟨rfl, rfl⟩)))
          go_ret
          exact ⟨rfl, by (repeat (first | with_reducible assumption | with_reducible exact Below.refl _ _ | with_reducible refine Below.drewN ?_ _ | with_reducible refine Below.drew ?_ | with_reducible refine Below.alloc ?_ (by first | omega | (simp; done) | (simp; omega)) _ | with_reducible refine Below.setCell ?_ (by first | omega | (simp; done) | (simp; omega)) _ | with_reducible refine below_more _ _ ?_ (by first | omega | (simp; done) | (simp; omega))))⟩
/-- A row of elements, at whatever address. -/
def QAt (w : World) (a : Addr) (l : List Qd) : Prop := ∀ (k : Nat) (q : Qd), l[k]? = some q → w.cell? (a.add (k * 5)) = some (.int .i64 q.w) ∧ w.cell? ⟨(a.add (k * 5)).block, (a.add (k * 5)).off + 1, none⟩ = some (.int .i64 q.x) ∧ w.cell? ⟨(a.add (k * 5)).block, (a.add (k * 5)).off + 2, none⟩ = some (.int .i64 q.y) ∧ w.cell? ⟨(a.add (k * 5)).block, (a.add (k * 5)).off + 3, none⟩ = some (.int .i64 q.z) ∧ w.cell? ⟨(a.add (k * 5)).block, (a.add (k * 5)).off + 4, none⟩ = some (.int .i64 q.d)
theorem QAt.below {B : Nat} {w w' : World} {a : Addr} {l : List Qd} (h : QAt w a l) (hb : Below B w w') (hB : w.heap.size ≤ B) : QAt w' a l := fun k q hq => by
  have c : ∀ (p : Addr) (v : Value), w.cell? p = some v → w'.cell? p = some v := fun p v hv => by
    have := World.block_lt_of_cell? w p hv
    rw [hb.cell (by omega)]; exact hv
  obtain ⟨h0, h1, h2, h3, h4⟩ := h k q hq
  exact ⟨c _ _ h0, c _ _ h1, c _ _ h2, c _ _ h3, c _ _ h4⟩
set_option maxRecDepth 10000 in
set_option maxHeartbeats 4000000 in
theorem rletter_any (l : List Qd) (a : Addr) (n cap k : Nat) (q : Qd) (hn : l.length = n) (hn2 : n ≤ 100) (hq : l[k]? = some q) (hs : q.serr = 0) (w : World) (hz : QAt w a l) :
    Calls Tryd.prog 28 #[.slice (some a) n cap, .int .i64 ((k : Int) + 1)] w fun e w' => e = .returned (.agg #[.int .i64 q.num.red.w, .int .i64 q.num.red.x, .int .i64 q.num.red.y, .int .i64 q.num.red.z]) ∧ Below w.heap.size w w' := by
  have hk : k < n := by rw [← hn]; exact (List.getElem?_eq_some_iff.1 hq).1
  obtain ⟨ok, nz⟩ := serr_ok hs
  have CO := Lib.hid (rcoords_in q ok nz)
  have hz2 : QAt (w.alloc (.cells #[.int .i64 0, .int .i64 0, .int .i64 0, .int .i64 0] 35)) a l := hz.below (Below.alloc (Below.refl _ _) (Nat.le_refl _) _) (Nat.le_refl _)
  obtain ⟨c0, c1, c2, c3, c4⟩ := hz2 k q hq
  have kn : (k : Int) < (n : Int) := by omega
  have k0 : 0 < (k : Int) + 1 := by omega
  have ke : (k : Int) + 1 - 1 = (k : Int) := by omega
  generalize q.num.red = r at *
  clear hz hz2 hq hn hs ok nz
  go_enter Tryd.func28, Tryd.ntmps28
  go_wp2_with (first | (go_at_call 26; with_reducible refine (CO.out _).mono ?_; rintro e w1 ⟨rfl, hb1⟩; obtain ⟨g1, rfl⟩ := more_of_below hb1; clear hb1))
  refine bodyPost_ret (v := .agg #[.int .i64 r.w, .int .i64 r.x, .int .i64 r.y, .int .i64 r.z]) (by simp [results, Tryd.results28, go_sem]) rfl ⟨rfl, by (repeat (first | with_reducible assumption | with_reducible exact Below.refl _ _ | with_reducible refine Below.drewN ?_ _ | with_reducible refine Below.drew ?_ | with_reducible refine Below.alloc ?_ (by first | omega | (simp; done) | (simp; omega)) _ | with_reducible refine Below.setCell ?_ (by first | omega | (simp; done) | (simp; omega)) _ | with_reducible refine below_more _ _ ?_ (by first | omega | (simp; done) | (simp; omega))))⟩
def EPost (n m : Nat) (E : Int) (w : World) (e : Ending) (w' : World) : Prop := ((m = n ∧ e = .returned (.int .i64 0)) ∨ (m < n ∧ e = .returned (.int .i64 E))) ∧ Below w.heap.size w w'
set_option maxRecDepth 10000 in
set_option maxHeartbeats 4000000 in
theorem rgens_len (n : Nat) (a : Option Addr) (cap : Nat) (hn : inB (n : Int) 1 6 = false) (w : World) :
    Calls Tryd.prog 6 #[.slice a n cap] w fun e w' => e = .returned (.int .i64 2) ∧ Below w.heap.size w w' := by
  have WI := Lib.hid (within_any (n : Int) 1 6)
  rw [hn] at WI
  clear hn
  go_enter Tryd.func6, Tryd.ntmps6
  go_wp2_with (first | (go_at_call 7; with_reducible refine (WI.out _).mono ?_; rintro e w' ⟨rfl, rfl⟩))
  go_ret
  exact ⟨rfl, by (repeat (first | with_reducible assumption | with_reducible exact Below.refl _ _ | with_reducible refine Below.drewN ?_ _ | with_reducible refine Below.drew ?_ | with_reducible refine Below.alloc ?_ (by first | omega | (simp; done) | (simp; omega)) _ | with_reducible refine Below.setCell ?_ (by first | omega | (simp; done) | (simp; omega)) _ | with_reducible refine below_more _ _ ?_ (by first | omega | (simp; done) | (simp; omega))))⟩
set_option maxRecDepth 10000 in
set_option maxHeartbeats 8000000 in
theorem rgens_walk (l : List Qd) (a : Addr) (cap m : Nat) (E : Int) (hl : 1 ≤ l.length ∧ l.length ≤ 6) (hm : m ≤ l.length) (hgood : ∀ (j : Nat) (q : Qd), j < m → l[j]? = some q → gE q = 0) (hbad : ∀ q, l[m]? = some q → gE q = E ∧ E ≠ 0) (w : World) (hz : QAt w a l) :
    Calls Tryd.prog 6 #[.slice (some a) l.length cap] w (EPost l.length m E w) := by
  have HZ := Lib.hid hz; have HGO : Hid _ := hgood; have HBA : Hid _ := hbad
  clear hz hgood hbad
  obtain ⟨n, hn⟩ : ∃ n, n = l.length := ⟨_, rfl⟩
  have HN := Lib.hid hn
  rw [← hn] at hl hm ⊢
  clear hn
  have hin : inB (n : Int) 1 6 = true := by unfold inB; rw [decide_eq_true_iff]; omega
  have WI := Lib.hid (within_any (n : Int) 1 6)
  rw [hin] at WI
  clear hin
  go_enter Tryd.func6, Tryd.ntmps6
  go_wp2_with (first | (go_at_call 7; with_reducible refine (WI.out _).mono ?_; rintro e w' ⟨rfl, rfl⟩))
  go_loopw [3] (fun i wr => ∃ k : Nat, k ≤ m ∧ i = .int .i64 k ∧ Ext w wr) (fun i _ => n - (intOf i).toNat)
  case atStart => exact ⟨0, by omega, rfl, Ext.refl _⟩
  case round =>
    obtain ⟨k, hk, rfl, hext⟩ := hrel
    obtain ⟨gx, rfl⟩ := more_of_below (Ext.below hext)
    clear hext
    by_cases hkn : k < n
    · obtain ⟨q, hq⟩ : ∃ q, l[k]? = some q := ⟨l[k]'(by rw [← HN.out]; exact hkn), List.getElem?_eq_getElem _⟩
      have hz1 := HZ.out.below (below_more (B := w.heap.size) w gx (Below.refl _ _) (Nat.le_refl _)) (Nat.le_refl _)
      obtain ⟨c0, c1, c2, c3, c4⟩ := hz1 k q hq
      have hz2 : ∀ g, QAt (more (more w gx) g) a l := fun g => hz1.below (below_more (B := (more w gx).heap.size) _ g (Below.refl _ _) (Nat.le_refl _)) (Nat.le_refl _)
      have dd := fun g => hz2 g k q hq
      have d0 := fun g => (dd g).1; have d1 := fun g => (dd g).2.1; have d2 := fun g => (dd g).2.2.1; have d3 := fun g => (dd g).2.2.2.1; have d4 := fun g => (dd g).2.2.2.2
      have kn : (k : Int) < (n : Int) := by omega
      have SE := Lib.hid (rspaceErr_any q)
      have HQ := Lib.hid hq
      clear hz1 hz2 dd hq
      by_cases hs : q.serr = 0
      · obtain ⟨ok, nz⟩ := serr_ok hs
        have CO := Lib.hid (rcoords_in q ok nz)
        have LA := Lib.hid (rlarge_any 1000 q.num.red (serr_InR hs))
        have hgE : gE q = if wB 1000 q.num.red then 0 else 8 := by unfold gE; rw [if_pos hs]
        rw [hs] at SE
        clear ok nz hs
        generalize q.num.red = r at *
        by_cases hw : wB 1000 r = true
        · have hkm : k ≠ m := fun e => by
            subst e
            obtain ⟨e1, e2⟩ := HBA.out q HQ.out
            rw [hgE, if_pos hw] at e1
            exact e2 e1.symm
          rw [hw] at LA
          clear hgE hw HBA HGO
          go_wp2_with (first | (go_at_call 24; with_reducible refine (SE.out _).mono ?_; rintro e w1 ⟨rfl, hb1⟩; obtain ⟨g1, rfl⟩ := more_of_below hb1; clear hb1) | (go_at_call 26; with_reducible refine (CO.out _).mono ?_; rintro e w2 ⟨rfl, hb2⟩; obtain ⟨g2, rfl⟩ := more_of_below hb2; clear hb2) | (go_at_call 25; with_reducible refine (LA.out _).mono ?_; rintro e w3 ⟨rfl, hb3⟩; obtain ⟨g3, rfl⟩ := more_of_below hb3; clear hb3))
          go_roundw
          case rel => exact ⟨k + 1, by omega, by go_num, ext_mk (by (repeat (first | with_reducible assumption | with_reducible exact Below.refl _ _ | with_reducible refine Below.drewN ?_ _ | with_reducible refine Below.drew ?_ | with_reducible refine Below.alloc ?_ (by first | omega | (simp; done) | (simp; omega)) _ | with_reducible refine Below.setCell ?_ (by first | omega | (simp; done) | (simp; omega)) _ | with_reducible refine below_more _ _ ?_ (by first | omega | (simp; done) | (simp; omega)))))⟩
          case measure => simp [intOf]; omega
        · have hw : wB 1000 r = false := by simpa using hw
          have hkm : k = m := by
            apply Decidable.byContradiction; intro hne
            have := HGO.out k q (by omega) HQ.out
            rw [hgE, hw] at this
            exact absurd this (by decide)
          subst hkm
          have hE : E = 8 := by
            obtain ⟨e1, _⟩ := HBA.out q HQ.out
            rw [hgE, hw] at e1
            exact e1.symm
          subst hE
          rw [hw] at LA
          clear hgE hw HBA HGO
          go_wp2_with (first | (go_at_call 24; with_reducible refine (SE.out _).mono ?_; rintro e w1 ⟨rfl, hb1⟩; obtain ⟨g1, rfl⟩ := more_of_below hb1; clear hb1) | (go_at_call 26; with_reducible refine (CO.out _).mono ?_; rintro e w2 ⟨rfl, hb2⟩; obtain ⟨g2, rfl⟩ := more_of_below hb2; clear hb2) | (go_at_call 25; with_reducible refine (LA.out _).mono ?_; rintro e w3 ⟨rfl, hb3⟩; obtain ⟨g3, rfl⟩ := more_of_below hb3; clear hb3))
          go_ret
          exact ⟨.inr ⟨hkn, rfl⟩, by (repeat (first | with_reducible assumption | with_reducible exact Below.refl _ _ | with_reducible refine Below.drewN ?_ _ | with_reducible refine Below.drew ?_ | with_reducible refine Below.alloc ?_ (by first | omega | (simp; done) | (simp; omega)) _ | with_reducible refine Below.setCell ?_ (by first | omega | (simp; done) | (simp; omega)) _ | with_reducible refine below_more _ _ ?_ (by first | omega | (simp; done) | (simp; omega))))⟩
      · have hgE : gE q = q.serr := by unfold gE; rw [if_neg hs]
        have hkm : k = m := by
          apply Decidable.byContradiction; intro hne
          have := HGO.out k q (by omega) HQ.out
          rw [hgE] at this
          exact hs this
        subst hkm
        have hE : E = q.serr := by
          obtain ⟨e1, _⟩ := HBA.out q HQ.out
          rw [hgE] at e1
          exact e1.symm
        subst hE
        have e3 : (q.serr != 0) = true := by simpa using hs
        clear hgE hs HBA HGO
        go_wp2_with (first | (go_at_call 24; with_reducible refine (SE.out _).mono ?_; rintro e w1 ⟨rfl, hb1⟩; obtain ⟨g1, rfl⟩ := more_of_below hb1; clear hb1))
        go_ret
        exact ⟨.inr ⟨hkn, rfl⟩, by (repeat (first | with_reducible assumption | with_reducible exact Below.refl _ _ | with_reducible refine Below.drewN ?_ _ | with_reducible refine Below.drew ?_ | with_reducible refine Below.alloc ?_ (by first | omega | (simp; done) | (simp; omega)) _ | with_reducible refine Below.setCell ?_ (by first | omega | (simp; done) | (simp; omega)) _ | with_reducible refine below_more _ _ ?_ (by first | omega | (simp; done) | (simp; omega))))⟩
    · have hkm : m = n := by omega
      obtain rfl : k = n := by omega
      clear HBA HGO
      go_wp2_with fail
      go_ret
      exact ⟨.inl ⟨hkm, rfl⟩, by (repeat (first | with_reducible assumption | with_reducible exact Below.refl _ _ | with_reducible refine Below.drewN ?_ _ | with_reducible refine Below.drew ?_ | with_reducible refine Below.alloc ?_ (by first | omega | (simp; done) | (simp; omega)) _ | with_reducible refine Below.setCell ?_ (by first | omega | (simp; done) | (simp; omega)) _ | with_reducible refine below_more _ _ ?_ (by first | omega | (simp; done) | (simp; omega))))⟩
end Go.Proofs.YthajaabgcbjfkaaDoor
