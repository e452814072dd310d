/- Contracts: quats over a slice that is owned; OfNorm; SameQuats. -/
import Derived.Test.YthajaabgcbjfkaaQ2
import Derived.Test.YthajaabgcbjfkaaN4
import Derived.Test.YthajaabgcbjfkaaN5
import Derived.Test.YthajaabgcbjfkaaG1
namespace Go.Proofs.Ythajaabgcbjfkaa
open Go.RowKit

theorem quats_own {W : World} {base : Nat} {v : Value} {l : List Qt} (h : OwnH W base v l) (hl : l.length < 1000000) (hi : ∀ q ∈ l, q.InR) :
    Calls Try.prog 73 #[v] W fun e w' => ∃ v', e = .returned v' ∧ OwnD w' W.heap.size v' (l.map Qt.toQ) ∧ Below W.heap.size W w' := by
  have h' := h
  rcases h.2 with ⟨rfl, h0⟩ | ⟨g, cap, cur, hv, hg, hh, hn, hcap, hsz, htk⟩
  · obtain rfl : l = [] := List.eq_nil_of_length_eq_zero h0
    refine (quats_nil W).mono ?_
    rintro e w' ⟨rfl, hb⟩
    exact ⟨_, rfl, OwnD.nil _ _, hb⟩
  · subst hv
    exact quats_row l g cap W hl (Array.getElem?_eq_some_iff.1 hh).1 hi fun k q hq => h'.h4 hq

set_option maxRecDepth 10000 in
set_option maxHeartbeats 1000000 in
theorem pofNorm_err (n : Int) (h : n < 1 ∨ 500 < n) (w : World) :
    Calls Try.prog 24 #[.int .i64 n] w fun e w' => e = .returned (.tuple #[.slice none 0 0, .int .i64 2]) ∧ Below w.heap.size w w' := by
  by_cases h1 : n < 1
  · go_enter Try.func24, Try.ntmps24
    go_wp2
    go_ret2
    exact ⟨rfl, by (repeat (first | with_reducible assumption | with_reducible exact Below.refl _ _ | with_reducible refine Below.drewN ?_ _ | with_reducible refine Below.drew ?_ | with_reducible refine Below.alloc ?_ (by first | omega | (simp; done) | (simp; omega)) _ | with_reducible refine Below.setCell ?_ (by first | omega | (simp; done) | (simp; omega)) _ | with_reducible refine below_more _ _ ?_ (by first | omega | (simp; done) | (simp; omega))))⟩
  · have h2 : 500 < n := by omega
    go_enter Try.func24, Try.ntmps24
    go_wp2
    go_ret2
    exact ⟨rfl, by (repeat (first | with_reducible assumption | with_reducible exact Below.refl _ _ | with_reducible refine Below.drewN ?_ _ | with_reducible refine Below.drew ?_ | with_reducible refine Below.alloc ?_ (by first | omega | (simp; done) | (simp; omega)) _ | with_reducible refine Below.setCell ?_ (by first | omega | (simp; done) | (simp; omega)) _ | with_reducible refine below_more _ _ ?_ (by first | omega | (simp; done) | (simp; omega))))⟩
theorem ofNormC_len {n : Nat} (h2 : n ≤ 500) : (ofNormC n).length < 1000000 := by
  have hu : up (4 * n) ≤ 45 := by
    apply Nat.not_lt.1; intro hc
    have := (up_spec (4 * n)).2 45 hc
    omega
  have := ofNormK_len n (up (4 * n) - 1) (by omega)
  unfold ofNormC; omega
theorem ofNormC_in {n : Nat} (h1 : 1 ≤ n) (h2 : n ≤ 500) : ∀ q ∈ ofNormC n, q.InR := fun q hq => by
  have := (mem_ofNormC h1).1 hq
  exact Qt.inR_of_nrm (by omega)
set_option maxRecDepth 10000 in
set_option maxHeartbeats 1000000 in
theorem pofNorm_ok (n : Nat) (h1 : 1 ≤ n) (h2 : n ≤ 500) (w : World) :
    Calls Try.prog 24 #[.int .i64 ((n : Int))] w fun e w' => ∃ v, e = .returned (.tuple #[v, .int .i64 0]) ∧ OwnD w' w.heap.size v ((ofNormC n).map Qt.toQ) ∧ Below w.heap.size w w' := by
  have HI := Lib.hid (ofNormC_in h1 h2)
  have hl := ofNormC_len h2
  have HO := Lib.hid (ofNorm_any n h1 h2)
  generalize ofNormC n = L at *
  go_enter Try.func24, Try.ntmps24
  go_wp2_with (first | (go_at_call 74; refine (HO.out _).mono ?_; rintro e w1 ⟨v1, rfl, hown, hb1⟩; have HW := Lib.hid hown; clear hown) | (go_at_call 73; refine (quats_own HW.out hl HI.out).mono ?_; rintro e w2 ⟨v2, rfl, hown2, hb2⟩; have HW2 := Lib.hid hown2; clear hown2))
  go_ret2
  refine ⟨v2, rfl, ?_, hb1.trans (hb2.mono hb1.size)⟩
  have h := HW2.out
  have hs := hb1.size
  rcases h with ⟨e, h | ⟨g, cap, cur, hv, hg, r⟩⟩
  · exact ⟨e, .inl h⟩
  · exact ⟨e, .inr ⟨g, cap, cur, hv, Nat.le_trans hs hg, r⟩⟩

theorem Qd.ne_cases {p q : Qd} (h : ¬ p = q) : ¬ p.w = q.w ∨ (p.w = q.w ∧ ¬ p.x = q.x) ∨ (p.w = q.w ∧ p.x = q.x ∧ ¬ p.y = q.y) ∨ (p.w = q.w ∧ p.x = q.x ∧ p.y = q.y ∧ ¬ p.z = q.z) ∨ (p.w = q.w ∧ p.x = q.x ∧ p.y = q.y ∧ p.z = q.z ∧ ¬ p.d = q.d) := by
  by_cases e0 : p.w = q.w
  · by_cases e1 : p.x = q.x
    · by_cases e2 : p.y = q.y
      · by_cases e3 : p.z = q.z
        · by_cases e4 : p.d = q.d
          · exact absurd (by cases p; cases q; simp_all) h
          · exact .inr (.inr (.inr (.inr ⟨e0, e1, e2, e3, e4⟩)))
        · exact .inr (.inr (.inr (.inl ⟨e0, e1, e2, e3⟩)))
      · exact .inr (.inr (.inl ⟨e0, e1, e2⟩))
    · exact .inr (.inl ⟨e0, e1⟩)
  · exact .inl e0
/-- The slice v reads as the elements l. -/
def Rd (w : World) (v : Value) (l : List Qd) : Prop := (v = .slice none 0 0 ∧ l = []) ∨ ∃ g cap, v = .slice (some ⟨g, 0, none⟩) l.length cap ∧ g < w.heap.size ∧ ∀ k q, l[k]? = some q → Q5 w g k q
theorem OwnD.rd {W : World} {base : Nat} {v : Value} {l : List Qd} (h : OwnD W base v l) : Rd W v l := by
  rcases h.form with h | ⟨g, cap, h1, _, h2, h3⟩
  · exact .inl h
  · exact .inr ⟨g, cap, h1, h2, h3⟩
theorem Rd.below {W W' : World} {v : Value} {l : List Qd} (h : Rd W v l) (hb : Below W.heap.size W W') : Rd W' v l := by
  rcases h with h | ⟨g, cap, h1, h2, h3⟩
  · exact .inl h
  · exact .inr ⟨g, cap, h1, Nat.lt_of_lt_of_le h2 hb.size, fun k q hq => (h3 k q hq).below hb h2⟩
theorem Rd.len {W : World} {v : Value} {l : List Qd} (h : Rd W v l) : ∃ a cap, v = .slice a l.length cap := by
  rcases h with ⟨rfl, rfl⟩ | ⟨g, cap, rfl, _⟩
  · exact ⟨_, _, rfl⟩
  · exact ⟨_, _, rfl⟩
theorem Rd.row {W : World} {v : Value} {l : List Qd} (h : Rd W v l) (hl : 0 < l.length) : ∃ g cap, v = .slice (some ⟨g, 0, none⟩) l.length cap ∧ g < W.heap.size ∧ ∀ k q, l[k]? = some q → Q5 W g k q := by
  rcases h with ⟨rfl, rfl⟩ | h
  · simp at hl
  · exact h

set_option maxHeartbeats 1000000 in
theorem same_lens (a b : Option Addr) (n m c d : Nat) (_hn : n < 1000000) (_hm : m < 1000000) (h : n ≠ m) (w : World) :
    Calls Try.prog 26 #[.slice a n c, .slice b m d] w fun e w' => e = .returned (.bool false) ∧ Below w.heap.size w w' := by
  have h1 : ((n : Int) != (m : Int)) = true := by rw [bne_iff_ne]; omega
  have h2 : ¬ n = m := h
  clear h
  go_enter Try.func26, Try.ntmps26
  go_wp2
  go_ret
  exact ⟨rfl, by (repeat (first | with_reducible assumption | with_reducible exact Below.refl _ _ | with_reducible refine Below.drewN ?_ _ | with_reducible refine Below.drew ?_ | with_reducible refine Below.alloc ?_ (by first | omega | (simp; done) | (simp; omega)) _ | with_reducible refine Below.setCell ?_ (by first | omega | (simp; done) | (simp; omega)) _ | with_reducible refine below_more _ _ ?_ (by first | omega | (simp; done) | (simp; omega))))⟩
set_option maxHeartbeats 1000000 in
theorem same_zero (a b : Option Addr) (c d : Nat) (w : World) :
    Calls Try.prog 26 #[.slice a 0 c, .slice b 0 d] w fun e w' => e = .returned (.bool true) ∧ Below w.heap.size w w' := by
  go_enter Try.func26, Try.ntmps26
  go_wp2
  refine wp_loop_rounds 1 ?_
  rw [rounds_succ]
  go_wp2
  go_ret
  exact ⟨rfl, by (repeat (first | with_reducible assumption | with_reducible exact Below.refl _ _ | with_reducible refine Below.drewN ?_ _ | with_reducible refine Below.drew ?_ | with_reducible refine Below.alloc ?_ (by first | omega | (simp; done) | (simp; omega)) _ | with_reducible refine Below.setCell ?_ (by first | omega | (simp; done) | (simp; omega)) _ | with_reducible refine below_more _ _ ?_ (by first | omega | (simp; done) | (simp; omega))))⟩
set_option maxRecDepth 10000 in
set_option maxHeartbeats 2000000 in
theorem same_rows (l m : List Qd) (g1 g2 c d : Nat) (hl : l.length < 1000000) (hm : m.length = l.length) (w : World) (b1 : g1 < w.heap.size) (b2 : g2 < w.heap.size) (h1 : ∀ k q, l[k]? = some q → Q5 w g1 k q) (h2 : ∀ k q, m[k]? = some q → Q5 w g2 k q) :
    Calls Try.prog 26 #[.slice (some ⟨g1, 0, none⟩) l.length c, .slice (some ⟨g2, 0, none⟩) l.length d] w fun e w' => e = .returned (.bool (decide (l = m))) ∧ Below w.heap.size w w' := by
  have H1 : Hid (∀ k q, l[k]? = some q → Q5 w g1 k q) := h1
  have H2 : Hid (∀ k q, m[k]? = some q → Q5 w g2 k q) := h2
  clear h1 h2
  have HM := Lib.hid hm
  clear hm
  obtain ⟨n, hn⟩ : ∃ n, n = l.length := ⟨_, rfl⟩
  have HN := Lib.hid hn
  rw [← hn] at hl ⊢
  clear hn
  generalize hr : decide (l = m) = r
  have HR := Lib.hid hr
  clear hr
  go_enter Try.func26, Try.ntmps26
  go_wp2
  go_loopw [5] (fun i wr => ∃ k : Nat, k ≤ n ∧ i = .int .i64 k ∧ Hid (l.take k = m.take k) ∧ Ext w wr) (fun i _ => n - (intOf i).toNat)
  case atStart => exact ⟨0, by omega, rfl, rfl, Ext.refl _⟩
  case round =>
    obtain ⟨k, hk, rfl, HT, hext⟩ := hrel
    by_cases hlt : k < n
    · obtain ⟨p, hp⟩ : ∃ p, l[k]? = some p := ⟨l[k]'(by rw [← HN.out]; exact hlt), List.getElem?_eq_getElem _⟩
      obtain ⟨q, hq⟩ : ∃ q, m[k]? = some q := ⟨m[k]'(by rw [HM.out, ← HN.out]; exact hlt), List.getElem?_eq_getElem _⟩
      obtain ⟨p0, p1, p2, p3, p4⟩ := H1.out k p hp
      obtain ⟨q0, q1, q2, q3, q4⟩ := H2.out k q hq
      have HP := Lib.hid hp
      have HQ := Lib.hid hq
      clear hp hq
      obtain ⟨gx, rfl⟩ := more_of_below (Ext.below hext)
      clear hext
      have kz : (0 : Int) ≤ (k : Int) := by omega
      have kn : (k : Int) < (n : Int) := by omega
      by_cases hpq : p = q
      · subst hpq
        have hE : Qd.eqb ⟨p.w, p.x, p.y, p.z, p.d⟩ ⟨p.w, p.x, p.y, p.z, p.d⟩ = true := Qd.eqb_iff.2 rfl
        go_wp2
        go_region
        go_wp2
        go_roundw
        case rel => exact ⟨k + 1, by omega, by go_num, (by rw [take_snoc' HP.out, take_snoc' HQ.out, HT.out] : l.take (k + 1) = m.take (k + 1)), ext_mk (by (repeat (first | with_reducible assumption | with_reducible exact Below.refl _ _ | with_reducible refine Below.drewN ?_ _ | with_reducible refine Below.drew ?_ | with_reducible refine Below.alloc ?_ (by first | omega | (simp; done) | (simp; omega)) _ | with_reducible refine Below.setCell ?_ (by first | omega | (simp; done) | (simp; omega)) _ | with_reducible refine below_more _ _ ?_ (by first | omega | (simp; done) | (simp; omega)))))⟩
        case measure => simp [intOf]; omega
      · have hE : Qd.eqb ⟨p.w, p.x, p.y, p.z, p.d⟩ ⟨q.w, q.x, q.y, q.z, q.d⟩ = false := by
          rw [← Bool.not_eq_true, Qd.eqb_iff]; exact hpq
        have hf : r = false := by
          rw [← HR.out, decide_eq_false_iff_not]
          intro e
          have h1 := HP.out
          have h2 := HQ.out
          rw [e, h2] at h1
          exact hpq (Option.some.inj h1).symm
        have HF := Lib.hid hf
        have hcs := Qd.ne_cases hpq
        clear hpq hE hf
        rcases hcs with e0 | ⟨e0, e1⟩ | ⟨e0, e1, e2⟩ | ⟨e0, e1, e2, e3⟩ | ⟨e0, e1, e2, e3, e4⟩
        all_goals go_wp2
        all_goals go_region
        all_goals go_wp2
        all_goals go_ret
        all_goals exact ⟨by rw [HF.out]; rfl, by (repeat (first | with_reducible assumption | with_reducible exact Below.refl _ _ | with_reducible refine Below.drewN ?_ _ | with_reducible refine Below.drew ?_ | with_reducible refine Below.alloc ?_ (by first | omega | (simp; done) | (simp; omega)) _ | with_reducible refine Below.setCell ?_ (by first | omega | (simp; done) | (simp; omega)) _ | with_reducible refine below_more _ _ ?_ (by first | omega | (simp; done) | (simp; omega))))⟩
    · obtain rfl : k = n := by omega
      obtain ⟨gx, rfl⟩ := more_of_below (Ext.below hext)
      clear hext
      go_wp2
      go_ret
      have hf : r = true := by
        rw [← HR.out, decide_eq_true_iff]
        have h := HT.out
        rwa [List.take_of_length_le (by rw [← HN.out]; exact Nat.le_refl _), List.take_of_length_le (by rw [HM.out, ← HN.out]; exact Nat.le_refl _)] at h
      exact ⟨by rw [hf]; rfl, by (repeat (first | with_reducible assumption | with_reducible exact Below.refl _ _ | with_reducible refine Below.drewN ?_ _ | with_reducible refine Below.drew ?_ | with_reducible refine Below.alloc ?_ (by first | omega | (simp; done) | (simp; omega)) _ | with_reducible refine Below.setCell ?_ (by first | omega | (simp; done) | (simp; omega)) _ | with_reducible refine below_more _ _ ?_ (by first | omega | (simp; done) | (simp; omega))))⟩
theorem same_any {w : World} {v u : Value} {l m : List Qd} (h1 : Rd w v l) (h2 : Rd w u m) (hl : l.length < 1000000) (hm : m.length < 1000000) :
    Calls Try.prog 26 #[v, u] w fun e w' => e = .returned (.bool (decide (l = m))) ∧ Below w.heap.size w w' := by
  by_cases he : l.length = m.length
  · by_cases h0 : l.length = 0
    · obtain ⟨a, c, rfl⟩ := h1.len
      obtain ⟨b, d, rfl⟩ := h2.len
      have e1 : l = [] := List.eq_nil_of_length_eq_zero h0
      have e2 : m = [] := List.eq_nil_of_length_eq_zero (by omega)
      subst e1; subst e2
      exact same_zero a b c d w
    · obtain ⟨g1, c, rfl, b1, r1⟩ := h1.row (by omega)
      obtain ⟨g2, d, rfl, b2, r2⟩ := h2.row (by omega)
      have := same_rows l m g1 g2 c d hl he.symm w b1 b2 r1 r2
      rwa [he] at this ⊢
  · obtain ⟨a, c, rfl⟩ := h1.len
    obtain ⟨b, d, rfl⟩ := h2.len
    have : decide (l = m) = false := by rw [decide_eq_false_iff_not]; intro e; exact he (by rw [e])
    rw [this]
    exact same_lens a b _ _ c d hl hm he w
end Go.Proofs.Ythajaabgcbjfkaa
