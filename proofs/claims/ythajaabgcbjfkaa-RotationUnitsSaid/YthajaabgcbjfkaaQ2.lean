/- Contract: quats. -/
import Derived.Test.YthajaabgcbjfkaaQ1
import Derived.Test.YthajaabgcbjfkaaV1
import Derived.Test.YthajaabgcbjfkaaA3
namespace Go.Proofs.Ythajaabgcbjfkaa
open Go.RowKit

theorem H4.below {w w' : World} {g k : Nat} {q : Qt} {B : Nat} (h : H4 w g k q) (hb : Below B w w') (hg : g < B) : H4 w' g k q :=
  ⟨by rw [hb.cell (by exact hg)]; exact h.c0, by rw [hb.cell (by exact hg)]; exact h.c1, by rw [hb.cell (by exact hg)]; exact h.c2, by rw [hb.cell (by exact hg)]; exact h.c3⟩

theorem quats_nil (w : World) :
    Calls Try.prog 73 #[.slice none 0 0] w fun e w' => e = .returned (.slice none 0 0) ∧ Below w.heap.size w w' := by
  go_enter Try.func73, Try.ntmps73
  go_wp2
  refine wp_loop_rounds 1 ?_
  rw [rounds_succ]
  go_wp2
  go_ret
  exact ⟨rfl, by (repeat (first | with_reducible assumption | with_reducible exact Below.refl _ _ | with_reducible refine Below.drewN ?_ _ | with_reducible refine Below.drew ?_ | with_reducible refine Below.alloc ?_ (by first | omega | (simp; done) | (simp; omega)) _ | with_reducible refine Below.setCell ?_ (by first | omega | (simp; done) | (simp; omega)) _ | with_reducible refine below_more _ _ ?_ (by first | omega | (simp; done) | (simp; omega))))⟩
set_option maxRecDepth 10000 in
set_option maxHeartbeats 2000000 in
theorem quats_row (l : List Qt) (g cap : Nat) (w : World) (hl : l.length < 1000000) (hg : g < w.heap.size) (hi : ∀ q ∈ l, q.InR) (hc : ∀ k q, l[k]? = some q → H4 w g k q) :
    Calls Try.prog 73 #[.slice (some ⟨g, 0, none⟩) l.length cap] w fun e w' => ∃ v, e = .returned v ∧ OwnD w' w.heap.size v (l.map Qt.toQ) ∧ Below w.heap.size w w' := by
  have HC : Hid (∀ k q, l[k]? = some q → H4 w g k q) := hc
  clear hc
  obtain ⟨n, hn⟩ : ∃ n, n = l.length := ⟨_, rfl⟩
  have HN := Lib.hid hn
  rw [← hn] at hl ⊢
  clear hn
  go_enter Try.func73, Try.ntmps73
  go_wp2
  go_loopw [3, 8] (fun v i wr => ∃ k : Nat, k ≤ n ∧ i = .int .i64 k ∧ DInv w.heap.size w v ((l.take k).map Qt.toQ) wr) (fun _ i _ => n - (intOf i).toNat)
  case atStart => exact ⟨0, by omega, rfl, OwnD.nil _ _, Below.refl _ _, Nat.le_refl _⟩
  case round =>
    obtain ⟨k, hk, rfl, hown, hB, hz⟩ := hrel
    by_cases hkn : k < n
    · obtain ⟨q, hq⟩ : ∃ q, l[k]? = some q := ⟨l[k]'(by rw [← HN.out]; exact hkn), List.getElem?_eq_getElem _⟩
      have hqi := hi q (List.mem_of_getElem? hq)
      obtain ⟨e0, e1, e2, e3⟩ := (HC.out k q hq).below hB hg
      have HQ := Lib.hid hq
      have HO := Lib.hid hown
      have HB := Lib.hid hB
      clear hq hown hB
      go_wp2_with (first | (go_at_call 67; with_reducible refine (quat_in q hqi _).mono ?_; rintro e w2 ⟨rfl, hb2⟩; obtain ⟨g2, rfl⟩ := more_of_below hb2; clear hb2) | (at_builtin; go_must (refine append_quat ((HO.out.alloc _).mor _) (w0 := w) (by have hB := HB.out; (repeat (first | with_reducible assumption | with_reducible exact Below.refl _ _ | with_reducible refine Below.drewN ?_ _ | with_reducible refine Below.drew ?_ | with_reducible refine Below.alloc ?_ (by first | omega | (simp; done) | (simp; omega)) _ | with_reducible refine Below.setCell ?_ (by first | omega | (simp; done) | (simp; omega)) _ | with_reducible refine below_more _ _ ?_ (by first | omega | (simp; done) | (simp; omega))))) (by simp; omega) q.toQ (by simp; omega) rfl (.tmp 12) (.tmp 15) rfl (by rfl) (by rfl) (by simp) ?_); intro v2 w2 hown2 hB2 hz2))
      go_roundw
      case rel =>
        refine ⟨k + 1, by omega, by go_num, ?_, hB2, hz2⟩
        rw [take_snoc' HQ.out, List.map_append]; exact hown2
      case measure => simp [intOf]; omega
    · obtain rfl : k = n := by omega
      have hown' : OwnD wr w.heap.size u3 (l.map Qt.toQ) := by have h := hown; rw [List.take_of_length_le (by rw [← HN.out]; exact Nat.le_refl _)] at h; exact h
      have HO := Lib.hid hown'
      clear hown hown'
      go_wp2
      go_ret
      exact ⟨u3, rfl, HO.out, hB⟩
end Go.Proofs.Ythajaabgcbjfkaa
