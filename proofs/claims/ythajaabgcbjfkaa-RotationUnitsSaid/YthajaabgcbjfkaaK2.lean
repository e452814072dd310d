/- Contract: the canonical associate. -/
import Derived.Test.YthajaabgcbjfkaaU2
import Derived.Test.YthajaabgcbjfkaaH1
namespace Go.Proofs.Ythajaabgcbjfkaa
open Go.RowKit

/-- The units as the Go text lists them. -/
def unitsL : List Qt := sortDn (unA ++ unB)
def canStep (x b u : Qt) : Qt := if 0 < ((x.mul u).over 2).cmp b then (x.mul u).over 2 else b
def canon (x : Qt) : Qt := unitsL.foldl (canStep x) x
theorem unitsL_length : unitsL.length = 24 := length_sortDn _
theorem canFold_snoc (x : Qt) (l : List Qt) (u : Qt) : (l ++ [u]).foldl (canStep x) x = canStep x (l.foldl (canStep x) x) u := by simp

theorem OwnH.mor {W : World} {base : Nat} {v : Value} {l : List Qt} (h : OwnH W base v l) (g : Nat × Array Obj) : OwnH (more W g) base v l := by
  obtain ⟨h1, h2⟩ := h
  refine ⟨h1, ?_⟩
  rcases h2 with h2 | ⟨g', cap, cur, hv, hg, hh, r⟩
  · exact .inl h2
  · exact .inr ⟨g', cap, cur, hv, hg, by rw [heap_more W g (Array.getElem?_eq_some_iff.1 hh).1]; exact hh, r⟩
theorem OwnH.setCell {W : World} {base : Nat} {v : Value} {l : List Qt} (h : OwnH W base v l) {p : Addr} (hp : p.block < base) (u : Value) : OwnH (W.setCell p u) base v l := ownsRow_setCell_below h hp u
theorem OwnH.drewN {W : World} {base : Nat} {v : Value} {l : List Qt} (h : OwnH W base v l) (n : Nat) : OwnH (W.drewN n) base v l := h
/-- The cells of element k. -/
theorem OwnH.at_ {W : World} {base g cap n : Nat} {l : List Qt} (h : OwnH W base (.slice (some ⟨g, 0, none⟩) n cap) l) {k : Nat} {q : Qt} (hq : l[k]? = some q) :
    W.cell? ⟨g, k * 4, none⟩ = some (.int .i64 q.w) ∧ W.cell? ⟨g, k * 4 + 1, none⟩ = some (.int .i64 q.x) ∧ W.cell? ⟨g, k * 4 + 2, none⟩ = some (.int .i64 q.y) ∧ W.cell? ⟨g, k * 4 + 3, none⟩ = some (.int .i64 q.z) := by
  obtain ⟨_, h2⟩ := h
  rcases h2 with ⟨h2, _⟩ | ⟨g', cap', cur, hv, hg, hh, hn, hcap, hsz, htk⟩
  · cases h2
  · obtain rfl : g' = g := by injection hv with e1 e2 e3; injection e1 with e1; injection e1 with e1; exact e1.symm
    have hk : k < l.length := (List.getElem?_eq_some_iff.1 hq).1
    have key : ∀ j v, j < 4 → (encQ q)[j]? = some v → W.cell? ⟨g', k * 4 + j, none⟩ = some v := fun j v hj hv => by
      rw [cell_of_row W g' _ cur _ (0, 0) hh]
      have h1 := flatQ_get l k q hq j hj
      rw [hv, ← htk, List.getElem?_take_of_lt (by omega), Array.getElem?_toList] at h1
      exact h1
    exact ⟨key 0 _ (by omega) rfl, key 1 _ (by omega) rfl, key 2 _ (by omega) rfl, key 3 _ (by omega) rfl⟩

theorem ownH_swap {W W' : World} {base : Nat} {v : Value} {l : List Qt} {g : Nat × Array Obj} (h : OwnH (more W g) base v l) (hs : W'.heap.size = W.heap.size) (hb : W.heap.size ≤ base) : OwnH (more W' g) base v l := by
  obtain ⟨h1, h2⟩ := h
  refine ⟨h1, ?_⟩
  rcases h2 with h2 | ⟨g', cap, cur, hv, hg, hh, r⟩
  · exact .inl h2
  · refine .inr ⟨g', cap, cur, hv, hg, ?_, r⟩
    rw [← hh]
    simp only [more]
    rw [Array.getElem?_append_right (by omega), Array.getElem?_append_right (by omega), hs]
theorem take_snoc' {α : Type} {l : List α} {k : Nat} {x : α} (h : l[k]? = some x) : l.take (k + 1) = l.take k ++ [x] := by
  rw [List.take_add_one, h]; rfl

set_option maxRecDepth 10000 in
set_option maxHeartbeats 1000000 in
theorem canonical_in (x : Qt) (h : ∀ u ∈ unitsL, (x.mul u).InR) (w : World) :
    Calls Try.prog 85 #[.agg #[.int .i64 x.w, .int .i64 x.x, .int .i64 x.y, .int .i64 x.z]] w fun e w' => e = .returned (.agg #[.int .i64 (canon x).w, .int .i64 (canon x).x, .int .i64 (canon x).y, .int .i64 (canon x).z]) ∧ Below w.heap.size w w' := by
  go_enter Try.func85, Try.ntmps85
  go_wp2_with (first | (go_at_call 78; refine (units_any _).mono ?_; rintro e w1 ⟨g, cap, rfl, hg, hown, hb1⟩; obtain ⟨g1, rfl⟩ := more_of_below hb1))
  simp only [World.size_alloc] at hg hown
  go_loopw [10] (fun i wr => ∃ k : Nat, k ≤ 24 ∧ i = .int .i64 k ∧ (∃ gg, wr = more (((w.alloc (.cells #[.int .i64 x.w, .int .i64 x.x, .int .i64 x.y, .int .i64 x.z] 96)).alloc (.cells #[.int .i64 0, .int .i64 0, .int .i64 0, .int .i64 0] 96)).alloc (.cells #[.int .i64 (((unitsL.take k).foldl (canStep x) x).w), .int .i64 (((unitsL.take k).foldl (canStep x) x).x), .int .i64 (((unitsL.take k).foldl (canStep x) x).y), .int .i64 (((unitsL.take k).foldl (canStep x) x).z)] 96)) gg) ∧ OwnH wr (w.heap.size + 1 + 1 + 1) (.slice (some ⟨g, 0, none⟩) 24 cap) unitsL) (fun i _ => 24 - (intOf i).toNat)
  case atStart => exact ⟨0, by omega, rfl, ⟨g1, rfl⟩, hown⟩
  case round =>
    clear hown
    obtain ⟨k, hk, rfl, ⟨gg, rfl⟩, hown⟩ := hrel
    generalize hb : (unitsL.take k).foldl (canStep x) x = b at *
    have HB := Lib.hid hb
    clear hb
    by_cases hk24 : k < 24
    · obtain ⟨u, hu⟩ : ∃ u, unitsL[k]? = some u := ⟨unitsL[k]'(by rw [unitsL_length]; exact hk24), List.getElem?_eq_getElem _⟩
      have hxu := h u (List.mem_of_getElem? hu)
      obtain ⟨e0, e1, e2, e3⟩ := hown.at_ hu
      have HU := Lib.hid hu
      clear hu
      have HO := Lib.hid hown
      clear hown
      go_wp2_with (first | (go_at_call 80; with_reducible refine (htimes_in x u hxu _).mono ?_; rintro e w2 ⟨rfl, hb2⟩; obtain ⟨g2, rfl⟩ := more_of_below hb2; clear hb2) | (go_at_call 118; with_reducible refine (compare_any _ _ _).mono ?_; rintro e w3 ⟨rfl, hb3⟩; obtain ⟨g3, rfl⟩ := more_of_below hb3; clear hb3))
      all_goals
        have hs : (unitsL.take (k + 1)).foldl (canStep x) x = canStep x b u := by rw [take_snoc' HU.out, canFold_snoc, HB.out]
        go_roundw
      case rel =>
        rw [show canStep x b u = (x.mul u).over 2 from if_pos ‹_›] at hs
        exact ⟨k + 1, by omega, by go_num, by rw [hs]; exact more_of_below (by (repeat (first | with_reducible assumption | with_reducible exact Below.refl _ _ | with_reducible refine Below.drewN ?_ _ | with_reducible refine Below.drew ?_ | with_reducible refine Below.alloc ?_ (by first | omega | (simp; done) | (simp; omega)) _ | with_reducible refine Below.setCell ?_ (by first | omega | (simp; done) | (simp; omega)) _ | with_reducible refine below_more _ _ ?_ (by first | omega | (simp; done) | (simp; omega))))), ((((ownH_swap HO.out (by simp) (by simp)).alloc _).mor _).alloc _).mor _⟩
      case measure => simp [intOf]; omega
      case rel =>
        rw [show canStep x b u = b from if_neg (Int.not_lt.2 ‹_›)] at hs
        exact ⟨k + 1, by omega, by go_num, by rw [hs]; exact more_of_below (by (repeat (first | with_reducible assumption | with_reducible exact Below.refl _ _ | with_reducible refine Below.drewN ?_ _ | with_reducible refine Below.drew ?_ | with_reducible refine Below.alloc ?_ (by first | omega | (simp; done) | (simp; omega)) _ | with_reducible refine Below.setCell ?_ (by first | omega | (simp; done) | (simp; omega)) _ | with_reducible refine below_more _ _ ?_ (by first | omega | (simp; done) | (simp; omega))))), (((HO.out.alloc _).mor _).alloc _).mor _⟩
      case measure => simp [intOf]; omega
    · obtain rfl : k = 24 := by omega
      have hc : canon x = b := by rw [← HB.out, List.take_of_length_le (by rw [unitsL_length]; omega)]; rfl
      go_wp2
      refine bodyPost_ret (v := .agg #[.int .i64 (canon x).w, .int .i64 (canon x).x, .int .i64 (canon x).y, .int .i64 (canon x).z]) (by rw [hc]; simp [results, Try.results85, go_sem]) rfl ⟨rfl, by (repeat (first | with_reducible assumption | with_reducible exact Below.refl _ _ | with_reducible refine Below.drewN ?_ _ | with_reducible refine Below.drew ?_ | with_reducible refine Below.alloc ?_ (by first | omega | (simp; done) | (simp; omega)) _ | with_reducible refine Below.setCell ?_ (by first | omega | (simp; done) | (simp; omega)) _ | with_reducible refine below_more _ _ ?_ (by first | omega | (simp; done) | (simp; omega))))⟩

end Go.Proofs.Ythajaabgcbjfkaa
