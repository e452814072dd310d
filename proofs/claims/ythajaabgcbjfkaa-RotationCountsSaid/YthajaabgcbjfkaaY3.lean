/- Contracts: slices.Index over Hurwitz quaternions; Has; permutes. -/
import Derived.Test.YthajaabgcbjfkaaI1
import Derived.Test.YthajaabgcbjfkaaN3
namespace Go.Proofs.Ythajaabgcbjfkaa
open Go.RowKit

theorem Qt.ne_cases {p q : Qt} (h : ¬ p = q) : ¬ p.w = q.w ∨ (p.w = q.w ∧ ¬ p.x = q.x) ∨ (p.w = q.w ∧ p.x = q.x ∧ ¬ p.y = q.y) ∨ (p.w = q.w ∧ p.x = q.x ∧ p.y = q.y ∧ ¬ p.z = q.z) := by
  by_cases e0 : p.w = q.w
  · by_cases e1 : p.x = q.x
    · by_cases e2 : p.y = q.y
      · by_cases e3 : p.z = q.z
        · exact absurd (Qt.ext' e0 e1 e2 e3) h
        · exact .inr (.inr (.inr ⟨e0, e1, e2, e3⟩))
      · exact .inr (.inr (.inl ⟨e0, e1, e2⟩))
    · exact .inr (.inl ⟨e0, e1⟩)
  · exact .inl e0
set_option maxRecDepth 10000 in
set_option maxHeartbeats 2000000 in
theorem index_in (L : List Qt) (g cap j : Nat) (q : Qt) (hl : L.length < 1000000) (hj : L[j]? = some q) (hn : ∀ i, i < j → L[i]? ≠ some q) (w : World) (hg : g < w.heap.size) (hc : ∀ k q, L[k]? = some q → H4 w g k q) :
    Calls Try.prog 103 #[.slice (some ⟨g, 0, none⟩) L.length cap, .agg #[.int .i64 q.w, .int .i64 q.x, .int .i64 q.y, .int .i64 q.z]] w fun e w' => e = .returned (.int .i64 ((j : Int))) ∧ Below w.heap.size w w' := by
  have HC : Hid (∀ k q, L[k]? = some q → H4 w g k q) := hc
  clear hc
  have hjl : j < L.length := (List.getElem?_eq_some_iff.1 hj).1
  have HJ := Lib.hid hj
  have HN0 : Hid (∀ i, i < j → L[i]? ≠ some q) := hn
  clear hj hn
  obtain ⟨n, hn⟩ : ∃ n, n = L.length := ⟨_, rfl⟩
  have HN := Lib.hid hn
  rw [← hn] at hl hjl ⊢
  clear hn
  go_enter Try.func103, Try.ntmps103
  go_wp2
  go_loopw [8] (fun i wr => ∃ k : Nat, k ≤ j ∧ i = .int .i64 k ∧ Ext (w.alloc (.cells #[.int .i64 q.w, .int .i64 q.x, .int .i64 q.y, .int .i64 q.z] 96)) wr) (fun i _ => n - (intOf i).toNat)
  case atStart => exact ⟨0, by omega, rfl, Ext.refl _⟩
  case round =>
    obtain ⟨k, hk, rfl, hext⟩ := hrel
    obtain ⟨gx, rfl⟩ := more_of_below (Ext.below hext)
    clear hext
    by_cases hlt : k < j
    · obtain ⟨p, hp⟩ : ∃ p, L[k]? = some p := ⟨L[k]'(by rw [← HN.out]; omega), List.getElem?_eq_getElem _⟩
      have hpq : ¬ p = q := fun e => HN0.out k hlt (by rw [hp, e])
      obtain ⟨p0, p1, p2, p3⟩ := HC.out k p hp
      clear hp
      have kn : (k : Int) < (n : Int) := by omega
      have hE : Qt.eqb ⟨q.w, q.x, q.y, q.z⟩ ⟨p.w, p.x, p.y, p.z⟩ = false := by
        rw [← Bool.not_eq_true, Qt.eqb_iff]; exact fun e => hpq e.symm
      clear hpq
      go_wp2
      go_region
      go_wp2
      go_roundw
      case rel => exact ⟨k + 1, by omega, by go_num, ext_mk (by (repeat (first | with_reducible assumption | with_reducible exact Below.refl _ _ | with_reducible refine Below.drewN ?_ _ | with_reducible refine Below.drew ?_ | with_reducible refine Below.alloc ?_ (by first | omega | (simp; done) | (simp; omega)) _ | with_reducible refine Below.setCell ?_ (by first | omega | (simp; done) | (simp; omega)) _ | with_reducible refine below_more _ _ ?_ (by first | omega | (simp; done) | (simp; omega)))))⟩
      case measure => simp [intOf]; omega
    · obtain rfl : k = j := by omega
      obtain ⟨p0, p1, p2, p3⟩ := HC.out k q HJ.out
      have kn : (k : Int) < (n : Int) := by omega
      have hE : Qt.eqb ⟨q.w, q.x, q.y, q.z⟩ ⟨q.w, q.x, q.y, q.z⟩ = true := Qt.eqb_iff.2 rfl
      go_wp2
      go_region
      go_wp2
      go_ret
      exact ⟨rfl, by (repeat (first | with_reducible assumption | with_reducible exact Below.refl _ _ | with_reducible refine Below.drewN ?_ _ | with_reducible refine Below.drew ?_ | with_reducible refine Below.alloc ?_ (by first | omega | (simp; done) | (simp; omega)) _ | with_reducible refine Below.setCell ?_ (by first | omega | (simp; done) | (simp; omega)) _ | with_reducible refine below_more _ _ ?_ (by first | omega | (simp; done) | (simp; omega))))⟩

set_option maxHeartbeats 1000000 in
theorem has_nil (a : Option Addr) (cap : Nat) (n : Int) (w : World) :
    Calls Try.prog 104 #[.slice a 0 cap, .int .i64 n] w fun e w' => e = .returned (.bool false) ∧ Below w.heap.size w w' := by
  go_enter Try.func104, Try.ntmps104
  go_wp2
  refine wp_loop_rounds 1 ?_
  rw [rounds_succ]
  go_wp2
  go_ret
  exact ⟨rfl, by (repeat (first | with_reducible assumption | with_reducible exact Below.refl _ _ | with_reducible refine Below.drewN ?_ _ | with_reducible refine Below.drew ?_ | with_reducible refine Below.alloc ?_ (by first | omega | (simp; done) | (simp; omega)) _ | with_reducible refine Below.setCell ?_ (by first | omega | (simp; done) | (simp; omega)) _ | with_reducible refine below_more _ _ ?_ (by first | omega | (simp; done) | (simp; omega))))⟩
set_option maxHeartbeats 1000000 in
theorem has_row (l : List Int) (a : Addr) (cap : Nat) (n : Int) (w : World) (hl : l.length < 1000000) (h : ZAt w a l) :
    Calls Try.prog 104 #[.slice (some a) l.length cap, .int .i64 n] w fun e w' => e = .returned (.bool (decide (n ∈ l))) ∧ Below w.heap.size w w' := by
  have HC := Lib.hid h
  clear h
  obtain ⟨m, hm⟩ : ∃ m, m = l.length := ⟨_, rfl⟩
  have HM := Lib.hid hm
  rw [← hm] at hl ⊢
  clear hm
  generalize hr : decide (n ∈ l) = r
  have HR := Lib.hid hr
  clear hr
  go_enter Try.func104, Try.ntmps104
  go_wp2
  go_loopw [5] (fun i wr => ∃ k : Nat, k ≤ m ∧ i = .int .i64 k ∧ Hid (∀ j, j < k → l[j]? ≠ some n) ∧ Ext w wr) (fun i _ => m - (intOf i).toNat)
  case atStart => exact ⟨0, by omega, rfl, fun j hj => by omega, Ext.refl _⟩
  case round =>
    obtain ⟨k, hk, rfl, HT, hext⟩ := hrel
    obtain ⟨gx, rfl⟩ := more_of_below (Ext.below hext)
    clear hext
    by_cases hlt : k < m
    · obtain ⟨x, hx⟩ : ∃ x, l[k]? = some x := ⟨l[k]'(by rw [← HM.out]; omega), List.getElem?_eq_getElem _⟩
      have c0 := (HC.out.mor gx) k x hx
      have kn : (k : Int) < (m : Int) := by omega
      by_cases he : x = n
      · subst he
        have hf : r = true := by rw [← HR.out, decide_eq_true_iff]; exact List.mem_of_getElem? hx
        have HF := Lib.hid hf
        have hb : (x == x) = true := by simp
        clear hx hf
        go_wp2
        go_ret
        exact ⟨by rw [HF.out]; rfl, by (repeat (first | with_reducible assumption | with_reducible exact Below.refl _ _ | with_reducible refine Below.drewN ?_ _ | with_reducible refine Below.drew ?_ | with_reducible refine Below.alloc ?_ (by first | omega | (simp; done) | (simp; omega)) _ | with_reducible refine Below.setCell ?_ (by first | omega | (simp; done) | (simp; omega)) _ | with_reducible refine below_more _ _ ?_ (by first | omega | (simp; done) | (simp; omega))))⟩
      · have hb : (x == n) = false := by simpa using he
        have HX := Lib.hid hx
        clear hx
        go_wp2
        go_roundw
        case rel => exact ⟨k + 1, by omega, by go_num, fun j hj => by
          by_cases e : j = k
          · rw [e, HX.out]; exact fun e => he (Option.some.inj e)
          · exact HT.out j (by omega), ext_mk (by (repeat (first | with_reducible assumption | with_reducible exact Below.refl _ _ | with_reducible refine Below.drewN ?_ _ | with_reducible refine Below.drew ?_ | with_reducible refine Below.alloc ?_ (by first | omega | (simp; done) | (simp; omega)) _ | with_reducible refine Below.setCell ?_ (by first | omega | (simp; done) | (simp; omega)) _ | with_reducible refine below_more _ _ ?_ (by first | omega | (simp; done) | (simp; omega)))))⟩
        case measure => simp [intOf]; omega
    · have hf : r = false := by
        rw [← HR.out, decide_eq_false_iff_not]
        intro hm
        obtain ⟨j, hj⟩ := List.mem_iff_getElem?.1 hm
        have := (List.getElem?_eq_some_iff.1 hj).1
        exact HT.out j (by have := HM.out; omega) hj
      subst hf
      go_wp2
      go_ret
      exact ⟨rfl, by (repeat (first | with_reducible assumption | with_reducible exact Below.refl _ _ | with_reducible refine Below.drewN ?_ _ | with_reducible refine Below.drew ?_ | with_reducible refine Below.alloc ?_ (by first | omega | (simp; done) | (simp; omega)) _ | with_reducible refine Below.setCell ?_ (by first | omega | (simp; done) | (simp; omega)) _ | with_reducible refine below_more _ _ ?_ (by first | omega | (simp; done) | (simp; omega))))⟩
theorem has_any {w : World} {v : Value} {l : List Int} (h : RdZ w v l) (hl : l.length < 1000000) (n : Int) :
    Calls Try.prog 104 #[v, .int .i64 n] w fun e w' => e = .returned (.bool (decide (n ∈ l))) ∧ Below w.heap.size w w' := by
  by_cases h0 : 0 < l.length
  · obtain ⟨a, cap, rfl, hz⟩ := h.row h0
    exact has_row l a cap n w hl hz
  · obtain rfl : l = [] := List.eq_nil_of_length_eq_zero (by omega)
    obtain ⟨a, cap, rfl⟩ := h.len
    exact has_nil a cap n w
set_option maxHeartbeats 1000000 in
theorem permutes_yes {w : World} {v : Value} {l : List Int} (h : RdZ w v l) (hl : l.length < 1000000) (hp : ∀ i : Nat, i < l.length → (i : Int) ∈ l) :
    Calls Try.prog 57 #[v] w fun e w' => e = .returned (.bool true) ∧ Below w.heap.size w w' := by
  obtain ⟨a, cap, rfl⟩ := h.len
  have HC := Lib.hid h
  have HP : Hid (∀ i : Nat, i < l.length → (i : Int) ∈ l) := hp
  have HL := Lib.hid hl
  clear h hp
  obtain ⟨m, hm⟩ : ∃ m, m = l.length := ⟨_, rfl⟩
  have HM := Lib.hid hm
  rw [← hm] at hl HC ⊢
  clear hm
  go_enter Try.func57, Try.ntmps57
  go_wp2
  go_loopw [3] (fun i wr => ∃ k : Nat, k ≤ m ∧ i = .int .i64 k ∧ Ext w wr) (fun i _ => m - (intOf i).toNat)
  case atStart => exact ⟨0, by omega, rfl, Ext.refl _⟩
  case round =>
    obtain ⟨k, hk, rfl, hext⟩ := hrel
    obtain ⟨gx, rfl⟩ := more_of_below (Ext.below hext)
    clear hext
    by_cases hlt : k < m
    · have kn : (k : Int) < (m : Int) := by omega
      have hin : decide ((k : Int) ∈ l) = true := decide_eq_true (HP.out k (by rw [← HM.out]; omega))
      have C := Lib.hid (has_any (HC.out.mor gx) HL.out (k : Int))
      rw [hin] at C
      clear hin
      go_wp2_with (first | (go_at_call 104; with_reducible refine (C.out).mono ?_; rintro e w1 ⟨rfl, hb1⟩; obtain ⟨g1, rfl⟩ := more_of_below hb1; clear hb1))
      go_roundw
      case rel => exact ⟨k + 1, by omega, by go_num, ext_mk (by (repeat (first | with_reducible assumption | with_reducible exact Below.refl _ _ | with_reducible refine Below.drewN ?_ _ | with_reducible refine Below.drew ?_ | with_reducible refine Below.alloc ?_ (by first | omega | (simp; done) | (simp; omega)) _ | with_reducible refine Below.setCell ?_ (by first | omega | (simp; done) | (simp; omega)) _ | with_reducible refine below_more _ _ ?_ (by first | omega | (simp; done) | (simp; omega)))))⟩
      case measure => simp [intOf]; omega
    · go_wp2
      go_ret
      exact ⟨rfl, by (repeat (first | with_reducible assumption | with_reducible exact Below.refl _ _ | with_reducible refine Below.drewN ?_ _ | with_reducible refine Below.drew ?_ | with_reducible refine Below.alloc ?_ (by first | omega | (simp; done) | (simp; omega)) _ | with_reducible refine Below.setCell ?_ (by first | omega | (simp; done) | (simp; omega)) _ | with_reducible refine below_more _ _ ?_ (by first | omega | (simp; done) | (simp; omega))))⟩
end Go.Proofs.Ythajaabgcbjfkaa
