/- The law RotationGroups: what its walk asks. -/
import Derived.Test.YthajaabgcbjfkaaDoorJ7
namespace Go.Proofs.YthajaabgcbjfkaaDoor
open Go.RowKit Go.BigFrame
attribute [local go_sem ↓] Go.wp_at_zero Go.wp_at_succ

/-- An argument that is a list of quaternions. -/
def ArgQ (W : World) (v : Value) (l : List Qd) : Prop := (v = .slice none 0 0 ∧ l = []) ∨ ∃ (a : Addr) (cap : Nat), v = .slice (some a) l.length cap ∧ l.length ≤ cap ∧ cap ≤ 9223372036854775807 ∧ QAt W a l
theorem stps_sq (l : List Qd) : ∀ k, k ≤ l.length → (stps l k).map sq = Qt.lets ((l.take k).map fun q => q.num.red)
  | 0, _ => rfl
  | k + 1, h => by
    have hq := List.getElem?_eq_getElem (show k < l.length by omega)
    rw [stps, List.map_append, stps_sq l k (by omega), take_snocJ hq, hq, List.map_append]
    simp [Qt.lets, stp, sq]
theorem inv_nrm {a : Qt} (h : Qt.Nz a) : (Qt.inv a).nrm ≤ a.nrm := by
  have := (Qt.red_nrm (Qt.nz_conj h)).2
  rw [Qt.nrm_conj] at this
  exact this
theorem QAt.flat {W : World} {a : Addr} {l : List Qd} (h : QAt W a l) : ∀ j u, (flatD l)[j]? = some u → W.cell? (a.add j) = some u := fun j u hu => by
  have hj : j < l.length * 5 := by rw [← flatD_length]; exact (List.getElem?_eq_some_iff.1 hu).1
  have hk : j / 5 < l.length := by omega
  have hq := List.getElem?_eq_getElem hk
  obtain ⟨c0, c1, c2, c3, c4⟩ := h _ _ hq
  have hr : j % 5 < 5 := Nat.mod_lt _ (by omega)
  have e : j = j / 5 * 5 + j % 5 := by omega
  rw [e, flatD_get l _ _ hq _ hr] at hu
  rw [e]
  have ad : ∀ r, r ≠ 0 → a.add (j / 5 * 5 + r) = ⟨(a.add (j / 5 * 5)).block, (a.add (j / 5 * 5)).off + r, none⟩ := fun r hr => by
    unfold Addr.add
    rw [if_neg (show ¬ j / 5 * 5 + r = 0 by omega)]
    by_cases h0 : j / 5 * 5 = 0
    · rw [if_pos h0, h0, Nat.zero_add]
    · rw [if_neg h0]
      show (⟨a.block, a.off + (j / 5 * 5 + r), none⟩ : Addr) = ⟨a.block, a.off + j / 5 * 5 + r, none⟩
      rw [Nat.add_assoc]
  generalize l[j / 5] = q at *
  generalize j % 5 = r at *
  match r, hr with
  | 0, _ => rw [Nat.add_zero, c0]; simpa [encD] using hu
  | 1, _ => rw [ad 1 (by omega), c1]; simpa [encD] using hu
  | 2, _ => rw [ad 2 (by omega), c2]; simpa [encD] using hu
  | 3, _ => rw [ad 3 (by omega), c3]; simpa [encD] using hu
  | 4, _ => rw [ad 4 (by omega), c4]; simpa [encD] using hu
/-- append of a row of quaternions. -/
theorem append_quats {w0 w : World} {base : Nat} {v : Value} {l : List Qd} (hown : OwnD w base v l) (hB : Below base w0 w) (hbase : base ≤ w.heap.size) (l2 : List Qd) (ad : Addr) (n c : Nat) (hn : n = l2.length) (h2 : QAt w ad l2) (hlen : l.length + l2.length < 1000000)
    {ops : Array Oper} {rest : List Oper} {o : Oper} {a : Act} {Q : Exit → Act → World → Prop} (hgd : o.guard = none) (s y : Operand)
    (ho : o.op = .call { callee := .builtin .append, args := #[s, y], argTypes := #[22, 22] })
    (hs : a.eval s = v) (hx : a.eval y = .slice (some ad) n c)
    (h : ∀ v' w', OwnD w' base v' (l ++ l2) → Below base w0 w' → base ≤ w'.heap.size → wpList Tryd.prog ops Q rest (a.put o.dst v') w') : wpList Tryd.prog ops Q (o :: rest) a w := by
  subst hn
  obtain ⟨i0, hi0, hz0, hz1, hz2⟩ := info_parts quatInfo
  refine wpList_append_own _ hgd s y 22 ho base 33 i0 _ 5 40 Tryd.underlying22 hi0 hz0 hz1 hz2 rfl (by omega) v l.length (flatD l) hs hown
    ad l2.length c (flatD l2) hx (by rw [flatD_length]) h2.flat ?_ (by simp only [maxLen]; omega) (by omega) hbase ?_
  · intro u hu
    unfold flatD at hu
    obtain ⟨c, _, hc⟩ := List.mem_flatMap.1 hu
    exact encD_one c u hc
  · intro v' w' h1 h3 _
    have hsz := h3.size
    refine h v' w' (by unfold OwnD; rw [flatD_append, List.length_append]; exact h1) (hB.grown h3 hbase ?_) (by omega)
    intro k hk
    exact (hown.lt k hk).1
theorem OwnD.empty (w : World) : OwnD (w.alloc (.cells #[] 33)) w.heap.size (.slice (some ⟨w.heap.size, 0, none⟩) 0 0) [] :=
  ⟨by simp [flatD], .inr ⟨w.heap.size, 0, #[], rfl, Nat.le_refl _, heap_alloc_new w _, Nat.le_refl _, by simp [maxLen], rfl, rfl⟩⟩

set_option maxRecDepth 10000 in
set_option maxHeartbeats 2000000 in
theorem group_err (vg : Value) (m E : Int) (hE : E ≠ 0) (w : World)
    (cs : Calls Tryd.prog 16 #[vg] w fun e w' => e = .returned (.tuple #[.slice none 0 0, .int .i64 E]) ∧ Below w.heap.size w w') :
    Calls Tryd.prog 5 #[vg, .int .i64 m] w fun e w' => e = .returned (.tuple #[.slice none 0 0, .int .i64 E]) ∧ Below w.heap.size w w' := by
  have CS := Lib.hid cs
  have hE2 : (E != 0) = true := by simpa using hE
  clear cs hE
  go_enter Tryd.func5, Tryd.ntmps5
  go_wp2_with (first | (go_at_call 16; with_reducible refine (CS.out).mono ?_; rintro e w1 ⟨rfl, hb1⟩; obtain ⟨g1, rfl⟩ := more_of_below hb1; clear hb1))
  refine bodyPost_ret (v := .tuple #[.slice none 0 0, .int .i64 E]) (by simp [results, Tryd.results5, go_sem]) rfl ⟨rfl, by (repeat (first | with_reducible assumption | with_reducible exact Below.refl _ _ | with_reducible refine Below.drewN ?_ _ | with_reducible refine Below.drew ?_ | with_reducible refine Below.alloc ?_ (by first | omega | (simp; done) | (simp; omega)) _ | with_reducible refine Below.setCell ?_ (by first | omega | (simp; done) | (simp; omega)) _ | with_reducible refine below_more _ _ ?_ (by first | omega | (simp; done) | (simp; omega))))⟩
set_option maxRecDepth 10000 in
set_option maxHeartbeats 2000000 in
theorem group_range (vg : Value) (m : Int) (hm : m < 1 ∨ 60 < m) (w : World)
    (cs : Calls Tryd.prog 16 #[vg] w fun e w' => (∃ v, e = .returned (.tuple #[v, .int .i64 0])) ∧ Below w.heap.size w w') :
    Calls Tryd.prog 5 #[vg, .int .i64 m] w fun e w' => e = .returned (.tuple #[.slice none 0 0, .int .i64 2]) ∧ Below w.heap.size w w' := by
  have CS := Lib.hid cs
  clear cs
  rcases hm with hm | hm
  · go_enter Tryd.func5, Tryd.ntmps5
    go_wp2_with (first | (go_at_call 16; with_reducible refine (CS.out).mono ?_; rintro e w1 ⟨⟨v1, rfl⟩, hb1⟩; obtain ⟨g1, rfl⟩ := more_of_below hb1; clear hb1))
    refine bodyPost_ret (v := .tuple #[.slice none 0 0, .int .i64 2]) (by simp [results, Tryd.results5, go_sem]) rfl ⟨rfl, by (repeat (first | with_reducible assumption | with_reducible exact Below.refl _ _ | with_reducible refine Below.drewN ?_ _ | with_reducible refine Below.drew ?_ | with_reducible refine Below.alloc ?_ (by first | omega | (simp; done) | (simp; omega)) _ | with_reducible refine Below.setCell ?_ (by first | omega | (simp; done) | (simp; omega)) _ | with_reducible refine below_more _ _ ?_ (by first | omega | (simp; done) | (simp; omega))))⟩
  · have hm1 : ¬ m < 1 := by omega
    go_enter Tryd.func5, Tryd.ntmps5
    go_wp2_with (first | (go_at_call 16; with_reducible refine (CS.out).mono ?_; rintro e w1 ⟨⟨v1, rfl⟩, hb1⟩; obtain ⟨g1, rfl⟩ := more_of_below hb1; clear hb1))
    refine bodyPost_ret (v := .tuple #[.slice none 0 0, .int .i64 2]) (by simp [results, Tryd.results5, go_sem]) rfl ⟨rfl, by (repeat (first | with_reducible assumption | with_reducible exact Below.refl _ _ | with_reducible refine Below.drewN ?_ _ | with_reducible refine Below.drew ?_ | with_reducible refine Below.alloc ?_ (by first | omega | (simp; done) | (simp; omega)) _ | with_reducible refine Below.setCell ?_ (by first | omega | (simp; done) | (simp; omega)) _ | with_reducible refine below_more _ _ ?_ (by first | omega | (simp; done) | (simp; omega))))⟩
/-- What the generators are. -/
inductive Gk (l : List Qd) : Prop
  | len (h : l.length < 1 ∨ 6 < l.length)
  | bad (h : 1 ≤ l.length ∧ l.length ≤ 6) (m : Nat) (E : Int) (hm : m < l.length) (hg : ∀ (j : Nat) (q : Qd), j < m → l[j]? = some q → gE q = 0) (hb : ∀ q, l[m]? = some q → gE q = E ∧ E ≠ 0)
  | good (h : 1 ≤ l.length ∧ l.length ≤ 6) (hg : ∀ (j : Nat) (q : Qd), l[j]? = some q → gE q = 0)
theorem gk_of (l : List Qd) : Gk l := by
  by_cases h : 1 ≤ l.length ∧ l.length ≤ 6
  rotate_left
  · exact .len (by omega)
  have : ∀ m, m ≤ l.length → (∀ (j : Nat) (q : Qd), j < m → l[j]? = some q → gE q = 0) ∨ ∃ k, k < m ∧ (∀ (j : Nat) (q : Qd), j < k → l[j]? = some q → gE q = 0) ∧ ∃ q, l[k]? = some q ∧ gE q ≠ 0 := by
    intro m
    induction m with
    | zero => exact fun _ => .inl fun j q hj => by omega
    | succ m ih =>
      intro hm
      rcases ih (by omega) with h1 | ⟨k, hk, h1, h2⟩
      · have hq := List.getElem?_eq_getElem (show m < l.length by omega)
        by_cases he : gE l[m] = 0
        · refine .inl fun j q hj hjq => ?_
          by_cases hjm : j < m
          · exact h1 j q hjm hjq
          · obtain rfl : j = m := by omega
            rw [hq] at hjq; cases hjq; exact he
        · exact .inr ⟨m, by omega, h1, _, hq, he⟩
      · exact .inr ⟨k, by omega, h1, h2⟩
  rcases this l.length (Nat.le_refl _) with h1 | ⟨k, hk, h1, q, hq, he⟩
  · exact .good h fun j q hq => h1 j q (List.getElem?_eq_some_iff.1 hq).1 hq
  · refine .bad h k (gE q) hk h1 fun q' hq' => ?_
    rw [hq] at hq'; cases hq'
    exact ⟨rfl, he⟩
theorem gE_ok {q : Qd} (h : gE q = 0) : q.serr = 0 ∧ wB 1000 q.num.red = true := by
  unfold gE at h
  by_cases hs : q.serr = 0
  · rw [if_pos hs] at h
    refine ⟨hs, ?_⟩
    cases hw : wB 1000 q.num.red
    · rw [hw] at h; simp at h
    · rfl
  · rw [if_neg hs] at h; exact absurd h hs
end Go.Proofs.YthajaabgcbjfkaaDoor
