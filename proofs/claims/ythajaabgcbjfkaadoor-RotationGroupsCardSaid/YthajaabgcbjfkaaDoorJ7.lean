/- Contract: Group of the reference. -/
import Derived.Test.YthajaabgcbjfkaaDoorJ6
import Derived.BigRegion
namespace Go.Proofs.YthajaabgcbjfkaaDoor
open Go.RowKit Go.BigFrame
attribute [local go_sem ↓] Go.wp_at_zero Go.wp_at_succ

namespace Qt
/-- Sorting by insertion: the first n stand in order. -/
def PW (C : List Qt) (n : Nat) : Prop := ∀ (a b : Nat) (x y : Qt), a < b → b < n → C[a]? = some x → C[b]? = some y → x.lt y
/-- The first i + 1 stand in order, but for the one at k, which is under way. -/
def SI (C : List Qt) (i k : Nat) : Prop := (∀ (a b : Nat) (x y : Qt), a < b → b ≤ i → a ≠ k → b ≠ k → C[a]? = some x → C[b]? = some y → x.lt y) ∧ (∀ (b : Nat) (x y : Qt), k < b → b ≤ i → C[k]? = some x → C[b]? = some y → x.lt y)
theorem pw_start (C : List Qt) : PW C 0 := fun a b x y _ hb => by omega
theorem si_start {C : List Qt} {i : Nat} (h : PW C i) : SI C i i :=
  ⟨fun a b x y h1 h2 _ h4 hx hy => h a b x y h1 (by omega) hx hy, fun b x y h1 h2 => by omega⟩
def swp (C : List Qt) (m : Nat) (y e : Qt) : List Qt := (C.set (m + 1) y).set m e
theorem swp_perm : ∀ (m : Nat) (C : List Qt) (y e : Qt), C[m]? = some y → C[m + 1]? = some e → (swp C m y e).Perm C
  | 0, [], y, e, h, _ => by simp at h
  | 0, [_], y, e, _, h => by simp at h
  | 0, a :: b :: C, y, e, h1, h2 => by
    simp only [List.getElem?_cons_zero, List.getElem?_cons_succ, Option.some.injEq, Nat.zero_add] at h1 h2
    subst h1 h2
    exact List.Perm.swap _ _ _
  | m + 1, [], y, e, h, _ => by simp at h
  | m + 1, a :: C, y, e, h1, h2 => by
    simp only [List.getElem?_cons_succ] at h1 h2
    exact List.Perm.cons a (swp_perm m C y e h1 h2)
theorem swp_length (C : List Qt) (m : Nat) (y e : Qt) : (swp C m y e).length = C.length := by unfold swp; simp
theorem swp_lo {C : List Qt} {m : Nat} {y e : Qt} (h : m < C.length) : (swp C m y e)[m]? = some e := by
  unfold swp; rw [List.getElem?_set_self (by simpa using h)]
theorem swp_hi {C : List Qt} {m : Nat} {y e : Qt} (h : m + 1 < C.length) : (swp C m y e)[m + 1]? = some y := by
  unfold swp; rw [List.getElem?_set_ne (by omega), List.getElem?_set_self h]
theorem swp_ne {C : List Qt} {m : Nat} {y e : Qt} {j : Nat} (h1 : j ≠ m) (h2 : j ≠ m + 1) : (swp C m y e)[j]? = C[j]? := by
  unfold swp; rw [List.getElem?_set_ne (by omega), List.getElem?_set_ne (by omega)]
theorem si_swap {C : List Qt} {i m : Nat} {y e : Qt} (h : SI C i (m + 1)) (hi : m + 1 ≤ i) (hl : m + 1 < C.length) (hy : C[m]? = some y) (he : C[m + 1]? = some e) (hlt : e.lt y) : SI (swp C m y e) i m := by
  obtain ⟨h1, h2⟩ := h
  refine ⟨fun a b p q hab hb ha hbm hp hq => ?_, fun b p q hb hbi hp hq => ?_⟩
  · by_cases e1 : a = m + 1
    · subst e1
      rw [swp_hi hl] at hp; cases hp
      rw [swp_ne hbm (by omega)] at hq
      exact h1 m b _ _ (by omega) hb (by omega) (by omega) hy hq
    · rw [swp_ne ha e1] at hp
      by_cases e2 : b = m + 1
      · subst e2
        rw [swp_hi hl] at hq; cases hq
        exact h1 a m _ _ (by omega) (by omega) (by omega) (by omega) hp hy
      · rw [swp_ne hbm e2] at hq
        exact h1 a b _ _ hab hb e1 e2 hp hq
  · rw [swp_lo (by omega)] at hp; cases hp
    by_cases e2 : b = m + 1
    · subst e2
      rw [swp_hi hl] at hq; cases hq
      exact hlt
    · rw [swp_ne (by omega) e2] at hq
      exact h2 b _ _ (by omega) hbi he hq
theorem si_zero {C : List Qt} {i : Nat} (h : SI C i 0) : PW C (i + 1) := fun a b x y hab hb hx hy => by
  by_cases e : a = 0
  · subst e; exact h.2 b x y hab (by omega) hx hy
  · exact h.1 a b x y hab (by omega) e (by omega) hx hy
theorem si_stop {C : List Qt} {i m : Nat} {y e : Qt} (h : SI C i (m + 1)) (hy : C[m]? = some y) (he : C[m + 1]? = some e) (hlt : y.lt e) : PW C (i + 1) := fun a b p q hab hb hp hq => by
  by_cases e1 : a = m + 1
  · subst e1; exact h.2 b p q hab (by omega) hp hq
  · by_cases e2 : b = m + 1
    · subst e2
      rw [he] at hq; cases hq
      by_cases e3 : a = m
      · subst e3; rw [hy] at hp; cases hp; exact hlt
      · exact Qt.lt_trans (h.1 a m _ _ (by omega) (by omega) (by omega) (by omega) hp hy) hlt
    · exact h.1 a b p q hab (by omega) e1 e2 hp hq
theorem pw_done {C : List Qt} (h : PW C C.length) : C.Pairwise Qt.lt := by
  rw [List.pairwise_iff_getElem]
  intro i j hi hj hij
  exact h i j _ _ hij hj (List.getElem?_eq_getElem hi) (List.getElem?_eq_getElem hj)
end Qt
/-- The row in memory while it is sorted. -/
structure MI (B : Nat) (w0 : World) (g la : Nat) (A C : List Qt) (wr : World) : Prop where
  len : C.length = la
  perm : C.Perm A
  below : Below B w0 wr
  lt : g < wr.heap.size
  row : ∀ (k : Nat) (q : Qt), C[k]? = some q → H4 wr g k q
  fr : ∀ j : Nat, j < la * 4 → wr.frozen? ⟨g, j, none⟩ = false
theorem MI.swap {B : Nat} {w0 : World} {g la : Nat} {A C : List Qt} {wr : World} (h : MI B w0 g la A C wr) (hg : B ≤ g) {m : Nat} {y e : Qt} (hy : C[m]? = some y) (he : C[m + 1]? = some e) : MI B w0 g la A (Qt.swp C m y e) (setQ (setQ wr g (m + 1) y) g m e) := by
  have hl : m + 1 < C.length := (List.getElem?_eq_some_iff.1 he).1
  refine ⟨by rw [Qt.swp_length]; exact h.len, (Qt.swp_perm m C y e hy he).trans h.perm, setQ_below (setQ_below h.below hg) hg, by rw [setQ_size, setQ_size]; exact h.lt, fun k q hq => ?_, fun j hj => by rw [setQ_frozen, setQ_frozen]; exact h.fr j hj⟩
  by_cases e1 : k = m
  · subst e1
    rw [Qt.swp_lo (by omega)] at hq; cases hq
    exact setQ_same (setQ_other (h.row k y hy) (by omega))
  · by_cases e2 : k = m + 1
    · subst e2
      rw [Qt.swp_hi hl] at hq; cases hq
      exact setQ_other (setQ_same (h.row (m + 1) e he)) (by omega)
    · rw [Qt.swp_ne e1 e2] at hq
      exact setQ_other (setQ_other (h.row k q hq) e2) e1
theorem MI.mor {B : Nat} {w0 : World} {g la : Nat} {A C : List Qt} {wr : World} (h : MI B w0 g la A C wr) (hg : B ≤ g) (G : Nat × Array Obj) : MI B w0 g la A C (more wr G) := by
  have hb : Below wr.heap.size wr (more wr G) := below_more wr G (Below.refl _ _) (Nat.le_refl _)
  exact ⟨h.len, h.perm, below_more wr G h.below (Nat.le_trans hg (Nat.le_of_lt h.lt)), Nat.lt_of_lt_of_le h.lt hb.size, fun k q hq => (h.row k q hq).below hb h.lt, fun j hj => (frozen?_more wr G _ h.lt).trans (h.fr j hj)⟩
theorem MI.drew {B : Nat} {w0 : World} {g la : Nat} {A C : List Qt} {wr : World} (h : MI B w0 g la A C wr) : MI B w0 g la A C wr.drew :=
  have hb : Below wr.heap.size wr wr.drew := Below.drew (Below.refl _ _)
  ⟨h.len, h.perm, Below.drew h.below, Nat.lt_of_lt_of_le h.lt hb.size, fun k q hq => (h.row k q hq).below hb h.lt, fun j hj => (hb.frozen h.lt).trans (h.fr j hj)⟩
def RGPost (w : World) (L : List Qt) (m : Nat) (e : Ending) (w' : World) : Prop :=
  ((∃ (A C : List Qt) (g cap : Nat), Qt.Full L m A ∧ C.Pairwise Qt.lt ∧ C.Perm A ∧ e = .returned (.tuple #[.slice (some ⟨g, 0, none⟩) C.length cap, .int .i64 0]) ∧ w.heap.size ≤ g ∧ g < w'.heap.size ∧ ∀ (k : Nat) (q : Qt), C[k]? = some q → H4 w' g k q) ∨ ((¬ ∃ A, Qt.Full L m A) ∧ e = .returned (.tuple #[.slice none 0 0, .int .i64 8]))) ∧ Below w.heap.size w w'
theorem bd_nrm3 {a : Qt} (h : Qt.Bd 1000 a) : a.nrm ≤ 4000000 := by
  obtain ⟨h0, h1, h2, h3⟩ := h
  have q : ∀ x : Int, -1000 ≤ x ∧ x ≤ 1000 → x * x ≤ 1000000 := fun x hx => by
    have : 0 ≤ (1000 - x) * (1000 + x) := Int.mul_nonneg (by omega) (by omega)
    have e : (1000 - x) * (1000 + x) = 1000000 - x * x := by grind
    omega
  have := q _ h0; have := q _ h1; have := q _ h2; have := q _ h3
  unfold Qt.nrm; omega
set_option maxRecDepth 10000 in
set_option maxHeartbeats 16000000 in
theorem rgroup_walk (l : List Qd) (a : Addr) (cap m : Nat) (hl : 1 ≤ l.length ∧ l.length ≤ 6) (hm : 1 ≤ m ∧ m ≤ 60) (hs : ∀ q ∈ l, q.serr = 0) (hb : ∀ q ∈ l, wB 1000 q.num.red = true) (w : World) (hz : QAt w a l) :
    Calls Tryd.prog 8 #[.slice (some a) l.length cap, .int .i64 m] w (RGPost w (l.map fun q => q.num.red) m) := by
  have HZ := Lib.hid hz; have HS : Hid _ := hs; have HBD : Hid _ := hb
  have HNR : Hid (∀ s ∈ l.map (fun q => q.num.red), Qt.Nrd s) := fun s h => by
    obtain ⟨q, hq, rfl⟩ := List.mem_map.1 h
    exact serr_nrd (hs q hq)
  clear hz hs hb
  obtain ⟨n, hn⟩ : ∃ n, n = l.length := ⟨_, rfl⟩
  have HN := Lib.hid hn
  rw [← hn] at hl ⊢
  clear hn
  go_enter Tryd.func8, Tryd.ntmps8
  go_wp2_with fail
  have HST : Hid (OwnF (w.alloc (.cells #[.int .i64 1, .int .i64 0, .int .i64 0, .int .i64 0] 35)) w.heap.size (.slice (some ⟨w.heap.size, 0, none⟩) 1 1) [Qt.e1q] ∧ Below w.heap.size w (w.alloc (.cells #[.int .i64 1, .int .i64 0, .int .i64 0, .int .i64 0] 35))) :=
    ⟨⟨rfl, .inr ⟨w.heap.size, 1, #[.int .i64 1, .int .i64 0, .int .i64 0, .int .i64 0], rfl, Nat.le_refl _, heap_alloc_new _ _, Nat.le_refl _, by simp [maxLen], rfl, rfl⟩⟩, by (repeat (first | with_reducible assumption | with_reducible exact Below.refl _ _ | with_reducible refine Below.drewN ?_ _ | with_reducible refine Below.drew ?_ | with_reducible refine Below.alloc ?_ (by first | omega | (simp; done) | (simp; omega)) _ | with_reducible refine Below.setCell ?_ (by first | omega | (simp; done) | (simp; omega)) _ | with_reducible refine below_more _ _ ?_ (by first | omega | (simp; done) | (simp; omega))))⟩
  go_loopw [6, 7] (fun v i wr => ∃ (A : List Qt) (k : Nat), k ≤ A.length ∧ A.length ≤ 66 ∧ i = .int .i64 k ∧ Hid (OwnF wr w.heap.size v A ∧ Below w.heap.size w wr ∧ w.heap.size ≤ wr.heap.size ∧ Qt.RInv (l.map fun q => q.num.red) A k 0)) (fun _ i _ => 67 - (intOf i).toNat)
  case atStart => exact ⟨[Qt.e1q], 0, by simp, by simp, rfl, HST.out.1, HST.out.2, by simp, Qt.rinv_start _⟩
  case round =>
    clear HST
    obtain ⟨A, i, hi, hA66, rfl, HR⟩ := hrel
    obtain ⟨wo, rfl⟩ : ∃ wo : World, wo = wr := ⟨_, rfl⟩
    obtain ⟨own, hB, hsz, inv⟩ := HR.out
    have hA1 : 0 < A.length := List.length_pos_of_mem inv.one
    clear HR
    obtain ⟨ga0, ca0, rfl, hgb, hgl, hrows, hfr⟩ := own.row hA1
    by_cases hin : i < A.length
    · obtain ⟨x, hx⟩ : ∃ x, A[i]? = some x := ⟨_, List.getElem?_eq_getElem hin⟩
      have HXR := Lib.hid (inv.re x (List.mem_of_getElem? hx))
      have hxn := inv.nr x (List.mem_of_getElem? hx)
      have XN := Lib.hid (Qt.reach_nrd HNR.out HXR.out)
      have LA := Lib.hid (rlarge_any 1000000 x (Qt.inR_of_nrm (by omega)))
      obtain ⟨x0, x1, x2, x3⟩ := hrows i x hx
      have kn0 : (i : Int) < (A.length : Int) := by omega
      by_cases hmA : m < A.length
      · have kn1 : (m : Int) < (A.length : Int) := by omega
        have STOP := Lib.hid (Qt.rinv_long inv hmA)
        clear own inv hx hrows hfr LA
        go_wp2_with fail
        refine bodyPost_ret (v := .tuple #[.slice none 0 0, .int .i64 8]) (by simp [results, Tryd.results8, go_sem]) rfl ⟨.inr ⟨STOP.out, rfl⟩, by (repeat (first | with_reducible assumption | with_reducible exact Below.refl _ _ | with_reducible refine Below.drewN ?_ _ | with_reducible refine Below.drew ?_ | with_reducible refine Below.alloc ?_ (by first | omega | (simp; done) | (simp; omega)) _ | with_reducible refine Below.setCell ?_ (by first | omega | (simp; done) | (simp; omega)) _ | with_reducible refine below_more _ _ ?_ (by first | omega | (simp; done) | (simp; omega))))⟩
      have kn1 : ¬ (m : Int) < (A.length : Int) := by omega
      cases hw : wB 1000000 x
      · have STOP := Lib.hid (Qt.rinv_big (m := m) inv hx (by rw [← wB_iff, hw]; decide))
        rw [hw] at LA
        have HBo := Lib.hid hB
        clear own inv hx hrows hfr hw hB
        go_wp2_with (first | (go_at_call 25; with_reducible refine (LA.out _).mono ?_; rintro e w2 ⟨rfl, hb2⟩; obtain ⟨g2, rfl⟩ := more_of_below hb2; clear hb2))
        refine bodyPost_ret (v := .tuple #[.slice none 0 0, .int .i64 8]) (by simp [results, Tryd.results8, go_sem]) rfl ⟨.inr ⟨STOP.out, rfl⟩, ?_⟩
        have hB := HBo.out
        (repeat (first | with_reducible assumption | with_reducible exact Below.refl _ _ | with_reducible refine Below.drewN ?_ _ | with_reducible refine Below.drew ?_ | with_reducible refine Below.alloc ?_ (by first | omega | (simp; done) | (simp; omega)) _ | with_reducible refine Below.setCell ?_ (by first | omega | (simp; done) | (simp; omega)) _ | with_reducible refine below_more _ _ ?_ (by first | omega | (simp; done) | (simp; omega))))
      have xb := bd_nrm (wB_iff.1 hw)
      have XB := Lib.hid (wB_iff.1 hw)
      rw [hw] at LA
      have HST : Hid (OwnF wo w.heap.size (.slice (some ⟨ga0, 0, none⟩) A.length ca0) A ∧ Below w.heap.size w wo ∧ w.heap.size ≤ wo.heap.size ∧ Qt.RInv (l.map fun q => q.num.red) A i 0 ∧ A[i]? = some x) := ⟨own, hB, hsz, inv, hx⟩
      obtain ⟨la, hla⟩ : ∃ la, la = A.length := ⟨_, rfl⟩
      have hAm : A.length ≤ m := by omega
      clear own inv hx hrows hfr hw hB
      go_wp2_with (first | (go_at_call 25; with_reducible refine (LA.out _).mono ?_; rintro e w2 ⟨rfl, hb2⟩; obtain ⟨g2, rfl⟩ := more_of_below hb2; clear hb2))
      go_loopw [6, 8] (fun v k wr => ∃ (A' : List Qt) (j : Nat), j ≤ n ∧ A'.length ≤ m + j ∧ k = .int .i64 ((j : Int) + 1) ∧ Hid (OwnF wr w.heap.size v A' ∧ Below w.heap.size w wr ∧ w.heap.size ≤ wr.heap.size ∧ Qt.RInv (l.map fun q => q.num.red) A' i j ∧ A'[i]? = some x)) (fun _ k _ => n + 1 - (intOf k).toNat)
      case atStart =>
        refine ⟨A, 0, by omega, by omega, rfl, HST.out.1.low ?_, ?_, ?_, HST.out.2.2.2⟩
        · (repeat (first | with_reducible assumption | with_reducible exact Below.refl _ _ | with_reducible refine Below.drewN ?_ _ | with_reducible refine Below.drew ?_ | with_reducible refine Below.alloc ?_ (by first | omega | (simp; done) | (simp; omega)) _ | with_reducible refine Below.setCell ?_ (by first | omega | (simp; done) | (simp; omega)) _ | with_reducible refine below_more _ _ ?_ (by first | omega | (simp; done) | (simp; omega))))
        · have hB := HST.out.2.1
          (repeat (first | with_reducible assumption | with_reducible exact Below.refl _ _ | with_reducible refine Below.drewN ?_ _ | with_reducible refine Below.drew ?_ | with_reducible refine Below.alloc ?_ (by first | omega | (simp; done) | (simp; omega)) _ | with_reducible refine Below.setCell ?_ (by first | omega | (simp; done) | (simp; omega)) _ | with_reducible refine below_more _ _ ?_ (by first | omega | (simp; done) | (simp; omega))))
        · have := HST.out.2.2.1
          first | omega | (simp; omega) | (simp only [size_more_eq]; omega)
      case round =>
        clear HST LA
        obtain ⟨A', j, hj, hAj, rfl, HR⟩ := hrel
        obtain ⟨wi, rfl⟩ : ∃ wi : World, wi = wr := ⟨_, rfl⟩
        obtain ⟨own, hB, hsz2, inv, hx⟩ := HR.out
        have hiA : i < A'.length := (List.getElem?_eq_some_iff.1 hx).1
        obtain ⟨ga, ca, rfl, hgb2, hgl2, hrows, _⟩ := own.row (by omega)
        have OW := Lib.hid own; have HB2 := Lib.hid hB; have INV := Lib.hid inv; have HX := Lib.hid hx
        clear HR own inv
        by_cases hjn : j < n
        · obtain ⟨q, hq⟩ : ∃ q, l[j]? = some q := ⟨l[j]'(by rw [← HN.out]; exact hjn), List.getElem?_eq_getElem _⟩
          have hqm := List.mem_of_getElem? hq
          obtain ⟨y0, y1, y2, y3⟩ := hrows i x hx
          have hsm : (l.map fun q => q.num.red)[j]? = some q.num.red := by rw [List.getElem?_map, hq]; rfl
          have HSM := Lib.hid hsm
          have sn := HNR.out _ (List.mem_of_getElem? hsm)
          have sb := bd_nrm3 (wB_iff.1 (HBD.out q hqm))
          have hnz := Qt.nz_mul (Qt.nrd_nz XN.out) (Qt.nrd_nz sn)
          have hyn : (x.mul q.num.red).nrm ≤ 4000000000000 * 4000000 := by
            rw [Qt.nrm_mul]
            exact Int.mul_le_mul xb sb (Qt.nrm_nonneg _) (by omega)
          have hyI : (x.mul q.num.red).InR := Qt.inR_of_nrm (by omega)
          have LE : Hid (∀ W, Below wi.heap.size wi W → Calls Tryd.prog 28 #[.slice (some a) n cap, .int .i64 ((j : Int) + 1)] W fun e w' => e = .returned (.agg #[.int .i64 q.num.red.w, .int .i64 q.num.red.x, .int .i64 q.num.red.y, .int .i64 q.num.red.z]) ∧ Below W.heap.size W w') := fun W hW =>
            rletter_any l a n cap j q HN.out.symm (by omega) hq (HS.out q hqm) W ((HZ.out.below HB2.out (Nat.le_refl _)).below hW (Nat.le_refl _))
          have PR : Hid (∀ w, Calls Tryd.prog 27 #[.agg #[.int .i64 x.w, .int .i64 x.x, .int .i64 x.y, .int .i64 x.z], .agg #[.int .i64 q.num.red.w, .int .i64 q.num.red.x, .int .i64 q.num.red.y, .int .i64 q.num.red.z]] w fun e w' => e = .returned (.agg #[.int .i64 (x.mul q.num.red).w, .int .i64 (x.mul q.num.red).x, .int .i64 (x.mul q.num.red).y, .int .i64 (x.mul q.num.red).z]) ∧ Below w.heap.size w w') := fun w => product_in x q.num.red w hyI
          have RE := Lib.hid (rreduced_in (x.mul q.num.red) hyI hnz)
          have hpn : (x.mul q.num.red).red.nrm ≤ 4000000000000 * 4000000 := by have := (Qt.red_nrm hnz).2; omega
          have FI : Hid (∀ t : Nat, A'[t]? = some (x.mul q.num.red).red → (∀ s : Nat, s < t → A'[s]? ≠ some (x.mul q.num.red).red) → ∀ W, Below wi.heap.size wi W → Calls Tryd.prog 29 #[.slice (some ⟨ga, 0, none⟩) A'.length ca, .agg #[.int .i64 ((x.mul q.num.red).red).w, .int .i64 ((x.mul q.num.red).red).x, .int .i64 ((x.mul q.num.red).red).y, .int .i64 ((x.mul q.num.red).red).z]] W fun e w' => e = .returned (.int .i64 ((t : Int))) ∧ Below W.heap.size W w') :=
            fun t h1 h2 W hW => rfound_in A' ga ca t _ (by omega) h1 h2 W (Nat.lt_of_lt_of_le hgl2 hW.size) (fun k q hq => (hrows k q hq).below hW hgl2)
          have FN : Hid ((x.mul q.num.red).red ∉ A' → ∀ W, Below wi.heap.size wi W → Calls Tryd.prog 29 #[.slice (some ⟨ga, 0, none⟩) A'.length ca, .agg #[.int .i64 ((x.mul q.num.red).red).w, .int .i64 ((x.mul q.num.red).red).x, .int .i64 ((x.mul q.num.red).red).y, .int .i64 ((x.mul q.num.red).red).z]] W fun e w' => e = .returned (.int .i64 (-1)) ∧ Below W.heap.size W w') :=
            fun h1 W hW => rfound_no A' ga ca _ (by omega) h1 W (Nat.lt_of_lt_of_le hgl2 hW.size) (fun k q hq => (hrows k q hq).below hW hgl2)
          have OLD : Hid ((x.mul q.num.red).red ∈ A' → Qt.RInv (l.map fun q => q.num.red) A' i (j + 1)) := fun h => Qt.rinv_old INV.out HX.out HSM.out h
          have NEW : Hid ((x.mul q.num.red).red ∉ A' → Qt.RInv (l.map fun q => q.num.red) (A' ++ [(x.mul q.num.red).red]) i (j + 1)) := fun h => Qt.rinv_new INV.out HX.out HSM.out h hpn
          have kn2 : (j : Int) + 1 ≤ (n : Int) := by omega
          have kn3 : (i : Int) < (A'.length : Int) := by omega
          generalize hr : q.num.red = r at *
          generalize x.mul r = y at *
          generalize hyp : y.red = p at *
          clear sn sb hnz hyn hyI hpn hrows hx hyp hq hqm hsm HSM hr INV hB
          go_wp2_with fail
          (apply Own2.wp_region_own2 10 [.inl _, .inl _, .inl _, .inl _, .inl _, .inl _, .inl _, .inl _, .inl _, .inr (.cells #[.int .i64 0, .int .i64 0, .int .i64 0, .int .i64 0] 35, fun b => .pointer (some ⟨b, 0, none⟩))] (by kernel_rfl) (by kernel_rfl); simp only [List.take_succ_cons, List.take_zero, List.drop_succ_cons, List.drop_zero]; (refine Own2.lexM_val rfl (fun K hK => ?_); go_simp; (try go_bits); refine ⟨fun w' hw' hcb' => ?_, hK _ ?_⟩; (focus (first | with_reducible exact rfl | (go_at_call 28; (with_reducible exact LE.out _ (Ext.below hw'))) | (go_at_call 27; (with_reducible exact PR.out _)) | (go_at_call 10; (with_reducible exact RE.out _)) | (obtain ⟨gx, rfl⟩ := more_of_below (Ext.below hw'); go_simp; exact rfl))); clear hK K); (refine Own2.lexM_val rfl (fun K hK => ?_); go_simp; (try go_bits); refine ⟨fun w' hw' hcb' => ?_, hK _ ?_⟩; (focus (first | with_reducible exact rfl | (go_at_call 28; (with_reducible exact LE.out _ (Ext.below hw'))) | (go_at_call 27; (with_reducible exact PR.out _)) | (go_at_call 10; (with_reducible exact RE.out _)) | (obtain ⟨gx, rfl⟩ := more_of_below (Ext.below hw'); go_simp; exact rfl))); clear hK K); (refine Own2.lexM_val rfl (fun K hK => ?_); go_simp; (try go_bits); refine ⟨fun w' hw' hcb' => ?_, hK _ ?_⟩; (focus (first | with_reducible exact rfl | (go_at_call 28; (with_reducible exact LE.out _ (Ext.below hw'))) | (go_at_call 27; (with_reducible exact PR.out _)) | (go_at_call 10; (with_reducible exact RE.out _)) | (obtain ⟨gx, rfl⟩ := more_of_below (Ext.below hw'); go_simp; exact rfl))); clear hK K); (refine Own2.lexM_val rfl (fun K hK => ?_); go_simp; (try go_bits); refine ⟨fun w' hw' hcb' => ?_, hK _ ?_⟩; (focus (first | with_reducible exact rfl | (go_at_call 28; (with_reducible exact LE.out _ (Ext.below hw'))) | (go_at_call 27; (with_reducible exact PR.out _)) | (go_at_call 10; (with_reducible exact RE.out _)) | (obtain ⟨gx, rfl⟩ := more_of_below (Ext.below hw'); go_simp; exact rfl))); clear hK K); (refine Own2.lexM_val rfl (fun K hK => ?_); go_simp; (try go_bits); refine ⟨fun w' hw' hcb' => ?_, hK _ ?_⟩; (focus (first | with_reducible exact rfl | (go_at_call 28; (with_reducible exact LE.out _ (Ext.below hw'))) | (go_at_call 27; (with_reducible exact PR.out _)) | (go_at_call 10; (with_reducible exact RE.out _)) | (obtain ⟨gx, rfl⟩ := more_of_below (Ext.below hw'); go_simp; exact rfl))); clear hK K); (refine Own2.lexM_val rfl (fun K hK => ?_); go_simp; (try go_bits); refine ⟨fun w' hw' hcb' => ?_, hK _ ?_⟩; (focus (first | with_reducible exact rfl | (go_at_call 28; (with_reducible exact LE.out _ (Ext.below hw'))) | (go_at_call 27; (with_reducible exact PR.out _)) | (go_at_call 10; (with_reducible exact RE.out _)) | (obtain ⟨gx, rfl⟩ := more_of_below (Ext.below hw'); go_simp; exact rfl))); clear hK K); (refine Own2.lexM_val rfl (fun K hK => ?_); go_simp; (try go_bits); refine ⟨fun w' hw' hcb' => ?_, hK _ ?_⟩; (focus (first | with_reducible exact rfl | (go_at_call 28; (with_reducible exact LE.out _ (Ext.below hw'))) | (go_at_call 27; (with_reducible exact PR.out _)) | (go_at_call 10; (with_reducible exact RE.out _)) | (obtain ⟨gx, rfl⟩ := more_of_below (Ext.below hw'); go_simp; exact rfl))); clear hK K); (refine Own2.lexM_val rfl (fun K hK => ?_); go_simp; (try go_bits); refine ⟨fun w' hw' hcb' => ?_, hK _ ?_⟩; (focus (first | with_reducible exact rfl | (go_at_call 28; (with_reducible exact LE.out _ (Ext.below hw'))) | (go_at_call 27; (with_reducible exact PR.out _)) | (go_at_call 10; (with_reducible exact RE.out _)) | (obtain ⟨gx, rfl⟩ := more_of_below (Ext.below hw'); go_simp; exact rfl))); clear hK K); (refine Own2.lexM_val rfl (fun K hK => ?_); go_simp; (try go_bits); refine ⟨fun w' hw' hcb' => ?_, hK _ ?_⟩; (focus (first | with_reducible exact rfl | (go_at_call 28; (with_reducible exact LE.out _ (Ext.below hw'))) | (go_at_call 27; (with_reducible exact PR.out _)) | (go_at_call 10; (with_reducible exact RE.out _)) | (obtain ⟨gx, rfl⟩ := more_of_below (Ext.below hw'); go_simp; exact rfl))); clear hK K); (refine Own2.lexM_mem rfl ?_ (fun w => by first | rfl | (go_simp; rfl) | (go_simp; done)) (fun b31 hb31 hn31 => ?_); (focus (first | rfl | (go_simp <;> rfl) | decide)); simp only [Act.put, List.setIfInBounds_toArray, List.set_cons_succ, List.set_cons_zero]); intro w3 hw3; have hB3 := hw3.1; have hO31 := (hw3.2 _ b31 _ (Or.inl ⟨rfl, rfl, rfl⟩)).2; clear hw3; obtain ⟨g3, g3', hE3, rfl⟩ := split_block hB3 hb31 hO31; clear hB3 hb31 hO31; (try clear hn31); (repeat (first | simp only [size_more_eq] at hE3 | simp only [World.size_alloc] at hE3)); subst hE3)
          clear y0 y1 y2 y3 LE PR RE
          by_cases hp : p ∈ A'
          · obtain ⟨t, ht1, ht2⟩ := first_at hp
            have FC := Lib.hid (FI.out t ht1 ht2)
            have hinv := OLD.out hp
            have tn : ¬ (t : Int) < 0 := by omega
            clear FI FN OLD NEW hp ht1 ht2
            go_wp2_with (first | (go_at_call 29; (with_reducible refine (FC.out _ ?_).mono ?_); (focus ((repeat (first | with_reducible assumption | with_reducible exact Below.refl _ _ | with_reducible refine Below.drewN ?_ _ | with_reducible refine Below.drew ?_ | with_reducible refine Below.alloc ?_ (by first | omega | (simp; done) | (simp; omega)) _ | with_reducible refine Below.setCell ?_ (by first | omega | (simp; done) | (simp; omega)) _ | with_reducible refine below_more _ _ ?_ (by first | omega | (simp; done) | (simp; omega)))))); rintro e w5 ⟨rfl, hb5⟩; obtain ⟨g5, rfl⟩ := more_of_below hb5; clear hb5))
            go_roundw
            case rel =>
              have hB := HB2.out
              refine ⟨A', j + 1, by omega, by omega, by go_num, OW.out.low ?_, ?_, ?_, hinv, HX.out⟩
              · (repeat (first | with_reducible assumption | with_reducible exact Below.refl _ _ | with_reducible refine Below.drewN ?_ _ | with_reducible refine Below.drew ?_ | with_reducible refine Below.alloc ?_ (by first | omega | (simp; done) | (simp; omega)) _ | with_reducible refine Below.setCell ?_ (by first | omega | (simp; done) | (simp; omega)) _ | with_reducible refine below_more _ _ ?_ (by first | omega | (simp; done) | (simp; omega))))
              · (repeat (first | with_reducible assumption | with_reducible exact Below.refl _ _ | with_reducible refine Below.drewN ?_ _ | with_reducible refine Below.drew ?_ | with_reducible refine Below.alloc ?_ (by first | omega | (simp; done) | (simp; omega)) _ | with_reducible refine Below.setCell ?_ (by first | omega | (simp; done) | (simp; omega)) _ | with_reducible refine below_more _ _ ?_ (by first | omega | (simp; done) | (simp; omega))))
              · first | omega | (simp; omega) | (simp only [size_more_eq, World.size_alloc, World.size_setCell]; omega)
            case measure => simp [intOf]; omega
          · have FC := Lib.hid (FN.out hp)
            have hinv := NEW.out hp
            have hlen : A'.length < 1000000 := by omega
            clear FI FN OLD NEW hp
            go_wp2_with (first | (go_at_call 29; (with_reducible refine (FC.out _ ?_).mono ?_); (focus ((repeat (first | with_reducible assumption | with_reducible exact Below.refl _ _ | with_reducible refine Below.drewN ?_ _ | with_reducible refine Below.drew ?_ | with_reducible refine Below.alloc ?_ (by first | omega | (simp; done) | (simp; omega)) _ | with_reducible refine Below.setCell ?_ (by first | omega | (simp; done) | (simp; omega)) _ | with_reducible refine below_more _ _ ?_ (by first | omega | (simp; done) | (simp; omega)))))); rintro e w5 ⟨rfl, hb5⟩; obtain ⟨g5, rfl⟩ := more_of_below hb5; clear hb5) | (at_builtin; go_must (refine append_arr4 (w0 := w) (base := w.heap.size) (v := .slice (some ⟨ga, 0, none⟩) A'.length ca) (l := A') ?_ ?_ ?_ p hlen rfl (.tmp 50) (.tmp 52) rfl (by rfl) (by rfl) (by simp) ?_); (focus (exact OW.out.low (by (repeat (first | with_reducible assumption | with_reducible exact Below.refl _ _ | with_reducible refine Below.drewN ?_ _ | with_reducible refine Below.drew ?_ | with_reducible refine Below.alloc ?_ (by first | omega | (simp; done) | (simp; omega)) _ | with_reducible refine Below.setCell ?_ (by first | omega | (simp; done) | (simp; omega)) _ | with_reducible refine below_more _ _ ?_ (by first | omega | (simp; done) | (simp; omega))))))); (focus (have hB := HB2.out; (repeat (first | with_reducible assumption | with_reducible exact Below.refl _ _ | with_reducible refine Below.drewN ?_ _ | with_reducible refine Below.drew ?_ | with_reducible refine Below.alloc ?_ (by first | omega | (simp; done) | (simp; omega)) _ | with_reducible refine Below.setCell ?_ (by first | omega | (simp; done) | (simp; omega)) _ | with_reducible refine below_more _ _ ?_ (by first | omega | (simp; done) | (simp; omega)))))); (focus (first | omega | (simp; omega) | (simp only [size_more_eq, World.size_alloc, World.size_setCell]; omega))); intro v7 w7 hown7 hB7 hz7; have HOW7 := Lib.hid hown7; clear hown7))
            go_roundw
            case rel => exact ⟨A' ++ [p], j + 1, by omega, by simp; omega, by go_num, HOW7.out, hB7, hz7, hinv, by rw [List.getElem?_append_left hiA]; exact HX.out⟩
            case measure => simp [intOf]; omega
        · obtain rfl : j = n := by omega
          have kn2 : ¬ (j : Int) + 1 ≤ (j : Int) := by omega
          have hinv : Qt.RInv (l.map fun q => q.num.red) A' (i + 1) 0 := Qt.rinv_next (by rw [List.length_map, ← HN.out]; exact INV.out) HX.out XB.out
          clear INV hrows
          go_wp2_with fail
          go_roundw
          case rel => exact ⟨A', i + 1, by omega, by omega, by go_num, OW.out, HB2.out, hsz2, hinv⟩
          case measure => simp [intOf]; omega
    · obtain rfl : i = A.length := by omega
      have kn0 : ¬ (A.length : Int) < (A.length : Int) := by omega
      by_cases hmA : m < A.length
      · have kn1 : (m : Int) < (A.length : Int) := by omega
        have STOP := Lib.hid (Qt.rinv_long inv hmA)
        clear own inv hrows hfr
        go_wp2_with fail
        refine bodyPost_ret (v := .tuple #[.slice none 0 0, .int .i64 8]) (by simp [results, Tryd.results8, go_sem]) rfl ⟨.inr ⟨STOP.out, rfl⟩, by (repeat (first | with_reducible assumption | with_reducible exact Below.refl _ _ | with_reducible refine Below.drewN ?_ _ | with_reducible refine Below.drew ?_ | with_reducible refine Below.alloc ?_ (by first | omega | (simp; done) | (simp; omega)) _ | with_reducible refine Below.setCell ?_ (by first | omega | (simp; done) | (simp; omega)) _ | with_reducible refine below_more _ _ ?_ (by first | omega | (simp; done) | (simp; omega))))⟩
      have kn1 : ¬ (m : Int) < (A.length : Int) := by omega
      have FU := Lib.hid (Qt.rinv_done (m := m) inv (by omega))
      have ND := Lib.hid inv.nd
      have MST : Hid (MI w.heap.size w ga0 A.length A A wo) := ⟨rfl, List.Perm.refl _, hB, hgl, hrows, hfr⟩
      obtain ⟨la, hla⟩ : ∃ la, la = A.length := ⟨_, rfl⟩
      rw [← hla] at MST kn0 kn1
      clear own inv hrows hfr hB hmA
      generalize A.length = la0 at *
      subst hla
      go_wp2_with fail
      go_loopw [10] (fun i wr => ∃ (C : List Qt) (k : Nat), k ≤ la ∧ i = .int .i64 k ∧ Hid (MI w.heap.size w ga0 la A C wr ∧ Qt.PW C k)) (fun i _ => la - (intOf i).toNat)
      case atStart => exact ⟨A, 0, by omega, rfl, MST.out, Qt.pw_start _⟩
      case round =>
        clear MST
        obtain ⟨C, i, hi, rfl, HR⟩ := hrel
        by_cases hin : i < la
        · have hil : (i : Int) < (la : Int) := by omega
          go_wp2_with fail
          go_loopw [11] (fun k wr => ∃ (C : List Qt) (k' : Nat), k' ≤ i ∧ k = .int .i64 k' ∧ Hid (MI w.heap.size w ga0 la A C wr ∧ Qt.SI C i k')) (fun k _ => (intOf k).toNat)
          case atStart => exact ⟨C, i, by omega, rfl, HR.out.1, Qt.si_start HR.out.2⟩
          case round =>
            clear HR
            obtain ⟨C, k, hk, rfl, HR⟩ := hrel
            by_cases hk0 : k = 0
            · subst hk0
              have hgd : decide ((0 : Int) < 0) = false := by decide
              have hpw := Qt.si_zero HR.out.2
              go_wp2_with fail
              (refine wp_region_quiet (C := Ext _) (by kernel_rfl) (by kernel_rfl) (Ext.start _) ?_; simp only []; (repeat (first | go_big_quiet_skip | (go_big_quiet_want; go_big_quiet_op; first | go_big_quiet_on | (apply Exists.intro; refine ⟨fun w' hw' => ?_, ?_⟩; (focus (first | with_reducible exact rfl | (go_at_call 30; fail) | (obtain ⟨gx, rfl⟩ := more_of_below (Ext.below hw'); go_simp; exact rfl))); go_big_quiet_on)))); refine wpQuiet_nil ?_; intro w5 hw5; have hb5 := Ext.below hw5; clear hw5; obtain ⟨g5, rfl⟩ := more_of_below hb5; clear hb5)
              go_wp2_with fail
              go_roundw
              case rel => exact ⟨C, i + 1, by omega, by go_num, HR.out.1.mor hgb _, hpw⟩
              case measure => simp [intOf]; omega
            · obtain ⟨b, hb⟩ : ∃ b, k = b + 1 := ⟨k - 1, by omega⟩
              have hM := HR.out.1
              have hkl : k < C.length := by rw [hM.len]; omega
              obtain ⟨y, hy⟩ : ∃ y, C[b]? = some y := ⟨_, List.getElem?_eq_getElem (by omega)⟩
              obtain ⟨e, he⟩ : ∃ e, C[k]? = some e := ⟨_, List.getElem?_eq_getElem hkl⟩
              have he2 : C[b + 1]? = some e := by rw [← hb]; exact he
              obtain ⟨y0, y1, y2, y3⟩ := hM.row b y hy
              obtain ⟨e0, e1, e2, e3⟩ := hM.row k e he
              have hglr := hM.lt
              have hgd : decide (0 < (k : Int)) = true := by simp; omega
              have k0 : 0 < (k : Int) := by omega
              have kp : 0 < k := by omega
              have hgd2 : decide (0 < k) = true := by simp; omega
              have kl : (k : Int) < (la : Int) := by omega
              have kb : (k : Int) - 1 = (b : Int) := by omega
              have bl : (b : Int) < (la : Int) := by omega
              have GR := Lib.hid (greater_any y e)
              have hne : y ≠ e := fun h => by
                have hnd := hM.perm.symm.nodup ND.out
                rw [h] at hy
                exact absurd ((List.getElem?_inj (by omega) hnd).1 (hy.trans he2.symm)) (by omega)
              cases hlt : e.ltb y
              · have hle : y.lt e := by
                  rcases Qt.lt_or_eq_or_lt y e with h | h | h
                  · exact h
                  · exact absurd h hne
                  · rw [← Qt.ltb_iff, hlt] at h; exact absurd h (by decide)
                rw [hlt] at GR
                have hpw := Qt.si_stop (hb ▸ HR.out.2) hy he2 hle
                have HM := Lib.hid hM
                clear hM hlt hy he he2 hne hb
                go_wp2_with fail
                (refine wp_region_quiet (C := Ext _) (by kernel_rfl) (by kernel_rfl) (Ext.start _) ?_; simp only []; (repeat (first | go_big_quiet_skip | (go_big_quiet_want; go_big_quiet_op; first | go_big_quiet_on | (apply Exists.intro; refine ⟨fun w' hw' => ?_, ?_⟩; (focus (first | with_reducible exact rfl | (go_at_call 30; (with_reducible exact Ext.call hw' (GR.out _))) | (obtain ⟨gx, rfl⟩ := more_of_below (Ext.below hw'); go_simp; exact rfl))); go_big_quiet_on)))); refine wpQuiet_nil ?_; intro w5 hw5; have hb5 := Ext.below hw5; clear hw5; obtain ⟨g5, rfl⟩ := more_of_below hb5; clear hb5)
                go_wp2_with fail
                go_roundw
                case rel => exact ⟨C, i + 1, by omega, by go_num, HM.out.mor hgb _, hpw⟩
                case measure => simp [intOf]; omega
              · rw [hlt] at GR
                have hsi := Qt.si_swap (hb ▸ HR.out.2) (by omega) (by omega) hy he2 (Qt.ltb_iff.1 hlt)
                have HSW : Hid (∀ g, MI w.heap.size w ga0 la A (Qt.swp C b y e) (setQ (setQ (more wr g) ga0 k y) ga0 b e)) := fun g => by
                  have := (hM.mor hgb g).swap hgb hy he2
                  rwa [← hb] at this
                have HM := Lib.hid hM; have HY := Lib.hid hy; have HE := Lib.hid he
                clear hM hlt hy he he2 hne HR hb
                go_wp2_with fail
                (refine wp_region_quiet (C := Ext _) (by kernel_rfl) (by kernel_rfl) (Ext.start _) ?_; simp only []; (repeat (first | go_big_quiet_skip | (go_big_quiet_want; go_big_quiet_op; first | go_big_quiet_on | (apply Exists.intro; refine ⟨fun w' hw' => ?_, ?_⟩; (focus (first | with_reducible exact rfl | (go_at_call 30; (with_reducible exact Ext.call hw' (GR.out _))) | (obtain ⟨gx, rfl⟩ := more_of_below (Ext.below hw'); go_simp; exact rfl))); go_big_quiet_on)))); refine wpQuiet_nil ?_; intro w5 hw5; have hb5 := Ext.below hw5; clear hw5; obtain ⟨g5, rfl⟩ := more_of_below hb5; clear hb5)
                have hM5 := HM.out.mor hgb g5
                have HSW5 := Lib.hid (HSW.out g5)
                clear HSW y0 y1 y2 y3 e0 e1 e2 e3 hglr
                generalize more wr g5 = w5 at *
                obtain ⟨y0, y1, y2, y3⟩ := hM5.row b y HY.out
                obtain ⟨e0, e1, e2, e3⟩ := hM5.row k e HE.out
                have hglr := hM5.lt
                have F0 := hM5.fr (k * 4) (by omega); have F1 := hM5.fr (k * 4 + 1) (by omega); have F2 := hM5.fr (k * 4 + 2) (by omega); have F3 := hM5.fr (k * 4 + 3) (by omega)
                have F4 := hM5.fr (b * 4) (by omega); have F5 := hM5.fr (b * 4 + 1) (by omega); have F6 := hM5.fr (b * 4 + 2) (by omega); have F7 := hM5.fr (b * 4 + 3) (by omega)
                clear HM HY HE hM5
                go_wp2_with fail
                go_region
                all_goals (go_wp2_with fail)
                all_goals go_roundw
                case rel => exact ⟨Qt.swp C b y e, b, by omega, rfl, HSW5.out.drew, hsi⟩
                case measure => simp [intOf]; omega
        · obtain rfl : i = la := by omega
          have hil : ¬ (i : Int) < (i : Int) := by omega
          have hM := HR.out.1
          have hpw := Qt.pw_done (hM.len ▸ HR.out.2)
          have hlen := hM.len
          go_wp2_with fail
          refine bodyPost_ret (v := .tuple #[.slice (some ⟨ga0, 0, none⟩) i ca0, .int .i64 0]) (by simp [results, Tryd.results8, go_sem]) rfl ⟨.inl ⟨A, C, ga0, ca0, FU.out, hpw, hM.perm, by rw [hlen], hgb, hM.lt, hM.row⟩, hM.below⟩
end Go.Proofs.YthajaabgcbjfkaaDoor
