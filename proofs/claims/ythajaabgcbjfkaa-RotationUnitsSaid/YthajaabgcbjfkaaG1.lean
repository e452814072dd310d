/- Contract: gcd of a list of numbers. -/
import Derived.Test.YthajaabgcbjfkaaA3
namespace Go.Proofs.Ythajaabgcbjfkaa
open Go.RowKit

theorem ext_mk {W w : World} (h : Below W.heap.size W w) : Ext W w := h
/-- The greatest common divisor of a list. -/
def gcdL (l : List Int) : Nat := l.foldl (fun g n => Nat.gcd g n.natAbs) 0
theorem gcdL_snoc (l : List Int) (x : Int) : gcdL (l ++ [x]) = Nat.gcd (gcdL l) x.natAbs := by simp [gcdL]
theorem gcdL_le (l : List Int) (B : Nat) (h : ∀ x ∈ l, x.natAbs ≤ B) : gcdL l ≤ B := by
  have key : ∀ (l : List Int) (g : Nat), g ≤ B → (∀ x ∈ l, x.natAbs ≤ B) → l.foldl (fun g n => Nat.gcd g n.natAbs) g ≤ B := by
    intro l
    induction l with
    | nil => intro g hg _; exact hg
    | cons x l ih =>
      intro g hg hl
      refine ih _ ?_ (fun y hy => hl y (by simp [hy]))
      show Nat.gcd g x.natAbs ≤ B
      by_cases h0 : g = 0
      · subst h0; rw [Nat.gcd_zero_left]; exact hl x (by simp)
      · exact Nat.le_trans (Nat.gcd_le_left _ (by omega)) hg
  exact key l 0 (by omega) h

theorem take_snoc {α : Type} {l : List α} {k : Nat} {x : α} (h : l[k]? = some x) : l.take (k + 1) = l.take k ++ [x] := by
  rw [List.take_add_one, h]; rfl

/-- What the inner loop keeps: the divisor stays. -/
def GcdInv (d : Nat) (g n : Value) : Prop := ∃ a b : Nat, g = .int .i64 a ∧ n = .int .i64 b ∧ Nat.gcd a b = d ∧ a ≤ 4000000000000000000 ∧ b ≤ 4000000000000000000

set_option maxRecDepth 10000 in
set_option maxHeartbeats 1000000 in
theorem gcd_any (l : List Int) (b off cap : Nat) (w : World) (hl : l.length ≤ 1000) (hc : ∀ (k : Nat) (x : Int), l[k]? = some x → w.cell? ⟨b, off + k, none⟩ = some (.int .i64 x)) (hb : b < w.heap.size)
    (hbd : ∀ x ∈ l, x.natAbs ≤ 4000000000000000000) :
    Calls Try.prog 81 #[.slice (some ⟨b, off, none⟩) l.length cap] w fun e w' => e = .returned (.int .i64 ((gcdL l : Int))) ∧ Below w.heap.size w w' := by
  have HC := Lib.hid hc
  clear hc
  generalize hn : l.length = n at *
  have HN := Lib.hid hn
  clear hn
  go_enter Try.func81, Try.ntmps81
  go_wp2
  go_loopw [3, 5, 8] (fun g _ i wr => ∃ k : Nat, k ≤ n ∧ i = .int .i64 k ∧ g = .int .i64 (((gcdL (l.take k) : Nat) : Int)) ∧ Ext w wr) (fun _ _ i _ => n - (intOf i).toNat)
  case atStart => exact ⟨0, Nat.zero_le _, rfl, by simp [gcdL], Ext.refl _⟩
  case round =>
    obtain ⟨k, hk, rfl, rfl, hext⟩ := hrel
    obtain ⟨g0, rfl⟩ := more_of_below (Ext.below hext)
    clear hext
    by_cases hlt : k < n
    · obtain ⟨x, hx⟩ : ∃ x, l[k]? = some x := ⟨l[k]'(by rw [HN.out]; exact hlt), List.getElem?_eq_getElem _⟩
      have hcell := HC.out k x hx
      have hxb := hbd x (List.mem_of_getElem? hx)
      have hgb := gcdL_le (l.take k) 4000000000000000000 (fun y hy => hbd y (List.mem_of_mem_take hy))
      have hsn := gcdL_snoc (l.take k) x
      rw [← take_snoc hx] at hsn
      have HS := Lib.hid hsn
      have HX := Lib.hid hx
      clear hsn hx
      have hx1 : -9223372036854775807 ≤ x := by omega
      have hx2 : x ≤ 9223372036854775807 := by omega
      go_wp2_with (first | (go_at_call 121; with_reducible refine (abs_any x _ hx1 hx2).mono ?_; rintro e w' ⟨rfl, rfl⟩))
      go_loopw [3, 5] (fun g m wr => GcdInv (gcdL (l.take (k + 1))) g m ∧ Ext w wr) (fun _ m _ => (intOf m).toNat)
      case atStart => exact ⟨⟨gcdL (l.take k), x.natAbs, rfl, rfl, HS.out.symm, hgb, hxb⟩, ext_mk (by (repeat (first | with_reducible assumption | with_reducible exact Below.refl _ _ | with_reducible refine Below.drewN ?_ _ | with_reducible refine Below.drew ?_ | with_reducible refine Below.alloc ?_ (by first | omega | (simp; done) | (simp; omega)) _ | with_reducible refine Below.setCell ?_ (by first | omega | (simp; done) | (simp; omega)) _ | with_reducible refine below_more _ _ ?_ (by first | omega | (simp; done) | (simp; omega)))))⟩
      case round =>
        obtain ⟨⟨p, q, rfl, rfl, hd, hp, hq⟩, hext⟩ := hrel
        have HD := Lib.hid hd
        clear hd
        obtain ⟨g1, rfl⟩ := more_of_below (Ext.below hext)
        clear hext
        by_cases hq0 : 0 < q
        · have hq1 : ¬ ((q : Int) = 0) := by omega
          have hm : (p : Int).tmod (q : Int) = ((p % q : Nat) : Int) := by rw [Int.tmod_eq_emod_of_nonneg (by omega)]; rfl
          go_wp2
          go_region
          go_wp2
          go_roundw
          case rel => exact ⟨⟨q, p % q, rfl, by first | rw [hm] | rfl, by rw [Nat.gcd_comm, ← Nat.gcd_rec, Nat.gcd_comm]; exact HD.out, hq, by have := Nat.mod_lt p hq0; omega⟩, ext_mk (by (repeat (first | with_reducible assumption | with_reducible exact Below.refl _ _ | with_reducible refine Below.drewN ?_ _ | with_reducible refine Below.drew ?_ | with_reducible refine Below.alloc ?_ (by first | omega | (simp; done) | (simp; omega)) _ | with_reducible refine Below.setCell ?_ (by first | omega | (simp; done) | (simp; omega)) _ | with_reducible refine below_more _ _ ?_ (by first | omega | (simp; done) | (simp; omega)))))⟩
          case measure => simp [intOf]; have := Nat.mod_lt p hq0; omega
        · have hq1 : q = 0 := by omega
          subst hq1
          go_wp2
          go_roundw
          case rel => exact ⟨k + 1, by omega, by go_num, by rw [← HD.out]; simp, ext_mk (by (repeat (first | with_reducible assumption | with_reducible exact Below.refl _ _ | with_reducible refine Below.drewN ?_ _ | with_reducible refine Below.drew ?_ | with_reducible refine Below.alloc ?_ (by first | omega | (simp; done) | (simp; omega)) _ | with_reducible refine Below.setCell ?_ (by first | omega | (simp; done) | (simp; omega)) _ | with_reducible refine below_more _ _ ?_ (by first | omega | (simp; done) | (simp; omega)))))⟩
          case measure => simp [intOf]; omega
    · go_wp2
      go_ret
      refine ⟨?_, by (repeat (first | with_reducible assumption | with_reducible exact Below.refl _ _ | with_reducible refine Below.drewN ?_ _ | with_reducible refine Below.drew ?_ | with_reducible refine Below.alloc ?_ (by first | omega | (simp; done) | (simp; omega)) _ | with_reducible refine Below.setCell ?_ (by first | omega | (simp; done) | (simp; omega)) _ | with_reducible refine below_more _ _ ?_ (by first | omega | (simp; done) | (simp; omega))))⟩
      have : l.take k = l := List.take_of_length_le (by rw [HN.out]; omega)
      simp [this]

end Go.Proofs.Ythajaabgcbjfkaa
