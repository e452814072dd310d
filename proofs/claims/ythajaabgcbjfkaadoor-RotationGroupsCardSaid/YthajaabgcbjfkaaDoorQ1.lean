/- Slices of elements that the call owns; quats; comparing two such slices. Contract: quats. Contracts: quats over a slice that is owned; OfNorm; SameQuats. -/
import Derived.Test.YthajaabgcbjfkaaDoorO1
import Derived.Test.YthajaabgcbjfkaaDoorA1
import Derived.Test.YthajaabgcbjfkaaDoorN3
import Derived.Test.YthajaabgcbjfkaaDoorN1
namespace Go.Proofs.YthajaabgcbjfkaaDoor
open Go.RowKit

def encD (q : Qd) : List Value := [.int .i64 q.w, .int .i64 q.x, .int .i64 q.y, .int .i64 q.z, .int .i64 q.d]
def flatD (l : List Qd) : List Value := l.flatMap encD
theorem flatD_length (l : List Qd) : (flatD l).length = l.length * 5 := by
  induction l with
  | nil => rfl
  | cons q l ih => simp only [flatD, List.flatMap_cons, List.length_append] at *; rw [ih]; simp [encD]; omega
theorem flatD_append (l m : List Qd) : flatD (l ++ m) = flatD l ++ flatD m := by simp [flatD]
theorem flatD_get (l : List Qd) (i : Nat) (q : Qd) (h : l[i]? = some q) (j : Nat) (hj : j < 5) : (flatD l)[i * 5 + j]? = (encD q)[j]? := by
  induction l generalizing i with
  | nil => simp at h
  | cons p l ih =>
    cases i with
    | zero =>
      simp only [List.getElem?_cons_zero, Option.some.injEq] at h
      subst h
      show (encD p ++ flatD l)[0 * 5 + j]? = _
      rw [Nat.zero_mul, Nat.zero_add, List.getElem?_append_left (by simp [encD]; omega)]
    | succ i =>
      show (encD p ++ flatD l)[(i + 1) * 5 + j]? = _
      rw [List.getElem?_append_right (by simp [encD]; omega)]
      have : (i + 1) * 5 + j - (encD p).length = i * 5 + j := by simp [encD]; omega
      rw [this]
      exact ih i (by simpa using h)
theorem encD_one : ∀ x, ∀ v ∈ encD x, v.oneCell' = true := fun x v hv => by
  simp only [encD, List.mem_cons, List.not_mem_nil, or_false] at hv
  rcases hv with rfl | rfl | rfl | rfl | rfl <;> rfl
theorem quatInfo : (Tryd.prog.info? 33).map (fun i => (i.zero, i.size, i.bytes)) = some (some (.agg #[.int .i64 0, .int .i64 0, .int .i64 0, .int .i64 0, .int .i64 0]), 5, 40) := by kernel_rfl

/-- The slice v of the call's own holds the elements l. -/
def OwnD (w : World) (base : Nat) (v : Value) (l : List Qd) : Prop := w.ownsRow base 33 5 v l.length (flatD l)
theorem OwnD.nil (w : World) (base : Nat) : OwnD w base (.slice none 0 0) [] := ⟨by simp [flatD], .inl ⟨rfl, rfl⟩⟩
theorem OwnD.alloc {w : World} {base : Nat} {v : Value} {l : List Qd} (h : OwnD w base v l) (o : Obj) : OwnD (w.alloc o) base v l := World.ownsRow.alloc h o
theorem OwnD.mor {W : World} {base : Nat} {v : Value} {l : List Qd} (h : OwnD W base v l) (g : Nat × Array Obj) : OwnD (more W g) base v l := by
  obtain ⟨h1, h2⟩ := h
  refine ⟨h1, ?_⟩
  rcases h2 with h2 | ⟨g', cap, cur, hv, hg, hh, r⟩
  · exact .inl h2
  · exact .inr ⟨g', cap, cur, hv, hg, by rw [heap_more W g (Array.getElem?_eq_some_iff.1 hh).1]; exact hh, r⟩
theorem OwnD.drew {W : World} {base : Nat} {v : Value} {l : List Qd} (h : OwnD W base v l) : OwnD W.drew base v l := h
theorem OwnD.below {W W' : World} {base : Nat} {v : Value} {l : List Qd} (h : OwnD W base v l) (hb : Below W.heap.size W W') : OwnD W' base v l := by
  obtain ⟨g, rfl⟩ := more_of_below hb
  exact h.mor g
/-- What the slice is: nil, or a row in a block of its own. -/
theorem OwnD.form {W : World} {base : Nat} {v : Value} {l : List Qd} (h : OwnD W base v l) : (v = .slice none 0 0 ∧ l = []) ∨ ∃ g cap, v = .slice (some ⟨g, 0, none⟩) l.length cap ∧ base ≤ g ∧ g < W.heap.size ∧ ∀ k q, l[k]? = some q → Q5 W g k q := by
  obtain ⟨_, h2⟩ := h
  rcases h2 with ⟨h2, h3⟩ | ⟨g, cap, cur, hv, hg, hh, hn, hcap, hsz, htk⟩
  · exact .inl ⟨h2, List.eq_nil_of_length_eq_zero h3⟩
  · refine .inr ⟨g, cap, hv, hg, (Array.getElem?_eq_some_iff.1 hh).1, fun k q hq => ?_⟩
    have hk : k < l.length := (List.getElem?_eq_some_iff.1 hq).1
    have key : ∀ j v, j < 5 → (encD q)[j]? = some v → W.cell? ⟨g, k * 5 + j, none⟩ = some v := fun j v hj hv => by
      rw [cell_of_row W g _ cur _ (0, 0) hh]
      have h1 := flatD_get l k q hq j hj
      rw [hv, ← htk, List.getElem?_take_of_lt (by omega), Array.getElem?_toList] at h1
      exact h1
    exact ⟨key 0 _ (by omega) rfl, key 1 _ (by omega) rfl, key 2 _ (by omega) rfl, key 3 _ (by omega) rfl, key 4 _ (by omega) rfl⟩
theorem OwnD.len {W : World} {base : Nat} {v : Value} {l : List Qd} (h : OwnD W base v l) : ∃ a cap, v = .slice a l.length cap := by
  rcases h.form with ⟨rfl, rfl⟩ | ⟨g, cap, rfl, _⟩
  · exact ⟨_, _, rfl⟩
  · exact ⟨_, _, rfl⟩

/-- append of one element that lies in the newest block. -/
theorem append_quat {w0 w : World} {base : Nat} {v : Value} {l : List Qd} (hown : OwnD w base v l) (hB : Below base w0 w) (hbase : base ≤ w.heap.size) (q : Qd) (hlen : l.length < 1000000)
    {ops : Array Oper} {rest : List Oper} {o : Oper} {a : Act} {Q : Exit → Act → World → Prop} (hgd : o.guard = none) (s x : Operand)
    (ho : o.op = .call { callee := .builtin .append, args := #[s, x], argTypes := #[22, 22] })
    (hs : a.eval s = v) {m : Nat} (hx : a.eval x = .slice (some ⟨m, 0, none⟩) 1 1) (hm : m = w.heap.size)
    (h : ∀ v' w', OwnD w' base v' (l ++ [q]) → Below base w0 w' → base ≤ w'.heap.size → wpList Tryd.prog ops Q rest (a.put o.dst v') w') : wpList Tryd.prog ops Q (o :: rest) a (w.alloc (.cells #[.int .i64 q.w, .int .i64 q.x, .int .i64 q.y, .int .i64 q.z, .int .i64 q.d] 33)) := by
  subst hm
  obtain ⟨i0, hi0, hz0, hz1, hz2⟩ := info_parts quatInfo
  refine wpList_append_own _ hgd s x 22 ho base 33 i0 _ 5 40 Tryd.underlying22 hi0 hz0 hz1 hz2 rfl (by omega) v l.length (flatD l) hs (hown.alloc _)
    ⟨w.heap.size, 0, none⟩ 1 1 (encD q) hx rfl ?_ (encD_one q) (by simp only [maxLen]; omega) (by omega) (by simp; omega) ?_
  · intro j u hu
    have : (⟨w.heap.size, 0, none⟩ : Addr).add j = ⟨w.heap.size, j, none⟩ := by unfold Addr.add; split <;> simp_all
    rw [this, cell_of_row _ _ _ _ _ _ (heap_alloc_new w _)]
    simpa [encD] using hu
  · intro v' w' h1 h2 _
    have hsz : w.heap.size ≤ w'.heap.size := Nat.le_trans (by simp) h2.size
    refine h v' w' (by unfold OwnD; rw [flatD_append]; simpa [flatD] using h1) ((hB.alloc hbase _).grown h2 (by simp; omega) ?_) (by omega)
    intro k hk
    exact (hown.lt k hk).1
/-- The elements of Hurwitz quaternions. -/
def DInv (B : Nat) (w0 : World) (v : Value) (l : List Qd) (w : World) : Prop := OwnD w B v l ∧ Below B w0 w ∧ B ≤ w.heap.size
end Go.Proofs.YthajaabgcbjfkaaDoor

namespace Go.Proofs.YthajaabgcbjfkaaDoor
open Go.RowKit

theorem H4.below {w w' : World} {g k : Nat} {q : Qt} {B : Nat} (h : H4 w g k q) (hb : Below B w w') (hg : g < B) : H4 w' g k q :=
  ⟨by rw [hb.cell (by exact hg)]; exact h.c0, by rw [hb.cell (by exact hg)]; exact h.c1, by rw [hb.cell (by exact hg)]; exact h.c2, by rw [hb.cell (by exact hg)]; exact h.c3⟩

theorem quats_nil (w : World) :
    Calls Tryd.prog 32 #[.slice none 0 0] w fun e w' => e = .returned (.slice none 0 0) ∧ Below w.heap.size w w' := by
  go_enter Tryd.func32, Tryd.ntmps32
  go_wp2
  refine wp_loop_rounds 1 ?_
  rw [rounds_succ]
  go_wp2
  go_ret
  exact ⟨rfl, by (repeat (first | with_reducible assumption | with_reducible exact Below.refl _ _ | with_reducible refine Below.drewN ?_ _ | with_reducible refine Below.drew ?_ | with_reducible refine Below.alloc ?_ (by first | omega | (simp; done) | (simp; omega)) _ | with_reducible refine Below.setCell ?_ (by first | omega | (simp; done) | (simp; omega)) _ | with_reducible refine below_more _ _ ?_ (by first | omega | (simp; done) | (simp; omega))))⟩
set_option maxRecDepth 10000 in
set_option maxHeartbeats 2000000 in
theorem quats_row (l : List Qt) (g cap : Nat) (w : World) (hl : l.length < 1000000) (hg : g < w.heap.size) (hi : ∀ q ∈ l, q.InR) (hc : ∀ k q, l[k]? = some q → H4 w g k q) :
    Calls Tryd.prog 32 #[.slice (some ⟨g, 0, none⟩) l.length cap] w fun e w' => ∃ v, e = .returned v ∧ OwnD w' w.heap.size v (l.map Qt.toQ) ∧ Below w.heap.size w w' := by
  have HC : Hid (∀ k q, l[k]? = some q → H4 w g k q) := hc
  clear hc
  obtain ⟨n, hn⟩ : ∃ n, n = l.length := ⟨_, rfl⟩
  have HN := Lib.hid hn
  rw [← hn] at hl ⊢
  clear hn
  go_enter Tryd.func32, Tryd.ntmps32
  go_wp2
  go_loopw [3, 8] (fun v i wr => ∃ k : Nat, k ≤ n ∧ i = .int .i64 k ∧ DInv w.heap.size w v ((l.take k).map Qt.toQ) wr) (fun _ i _ => n - (intOf i).toNat)
  case atStart => exact ⟨0, by omega, rfl, OwnD.nil _ _, Below.refl _ _, Nat.le_refl _⟩
  case round =>
    obtain ⟨k, hk, rfl, hown, hB, hz⟩ := hrel
    by_cases hkn : k < n
    · obtain ⟨q, hq⟩ : ∃ q, l[k]? = some q := ⟨l[k]'(by rw [← HN.out]; exact hkn), List.getElem?_eq_getElem _⟩
      have hqi := hi q (List.mem_of_getElem? hq)
      obtain ⟨e0, e1, e2, e3⟩ := (HC.out k q hq).below hB hg
      have HQ := Lib.hid hq
      have HO := Lib.hid hown
      have HB := Lib.hid hB
      clear hq hown hB
      go_wp2_with (first | (go_at_call 37; with_reducible refine (quat_in q hqi _).mono ?_; rintro e w2 ⟨rfl, hb2⟩; obtain ⟨g2, rfl⟩ := more_of_below hb2; clear hb2) | (at_builtin; go_must (refine append_quat ((HO.out.alloc _).mor _) (w0 := w) (by have hB := HB.out; (repeat (first | with_reducible assumption | with_reducible exact Below.refl _ _ | with_reducible refine Below.drewN ?_ _ | with_reducible refine Below.drew ?_ | with_reducible refine Below.alloc ?_ (by first | omega | (simp; done) | (simp; omega)) _ | with_reducible refine Below.setCell ?_ (by first | omega | (simp; done) | (simp; omega)) _ | with_reducible refine below_more _ _ ?_ (by first | omega | (simp; done) | (simp; omega))))) (by simp; omega) q.toQ (by simp; omega) rfl (.tmp 12) (.tmp 15) rfl (by rfl) (by rfl) (by simp) ?_); intro v2 w2 hown2 hB2 hz2))
      go_roundw
      case rel =>
        refine ⟨k + 1, by omega, by go_num, ?_, hB2, hz2⟩
        rw [take_snoc' HQ.out, List.map_append]; exact hown2
      case measure => simp [intOf]; omega
    · obtain rfl : k = n := by omega
      have hown' : OwnD wr w.heap.size u3 (l.map Qt.toQ) := by have h := hown; rw [List.take_of_length_le (by rw [← HN.out]; exact Nat.le_refl _)] at h; exact h
      have HO := Lib.hid hown'
      clear hown hown'
      go_wp2
      go_ret
      exact ⟨u3, rfl, HO.out, hB⟩
end Go.Proofs.YthajaabgcbjfkaaDoor

namespace Go.Proofs.YthajaabgcbjfkaaDoor
open Go.RowKit

theorem quats_own {W : World} {base : Nat} {v : Value} {l : List Qt} (h : OwnH W base v l) (hl : l.length < 1000000) (hi : ∀ q ∈ l, q.InR) :
    Calls Tryd.prog 32 #[v] W fun e w' => ∃ v', e = .returned v' ∧ OwnD w' W.heap.size v' (l.map Qt.toQ) ∧ Below W.heap.size W w' := by
  have h' := h
  rcases h.2 with ⟨rfl, h0⟩ | ⟨g, cap, cur, hv, hg, hh, hn, hcap, hsz, htk⟩
  · obtain rfl : l = [] := List.eq_nil_of_length_eq_zero h0
    refine (quats_nil W).mono ?_
    rintro e w' ⟨rfl, hb⟩
    exact ⟨_, rfl, OwnD.nil _ _, hb⟩
  · subst hv
    exact quats_row l g cap W hl (Array.getElem?_eq_some_iff.1 hh).1 hi fun k q hq => h'.h4 hq

set_option maxRecDepth 10000 in
set_option maxHeartbeats 1000000 in
theorem pofNorm_err (n : Int) (h : n < 1 ∨ 500 < n) (w : World) :
    Calls Tryd.prog 11 #[.int .i64 n] w fun e w' => e = .returned (.tuple #[.slice none 0 0, .int .i64 2]) ∧ Below w.heap.size w w' := by
  by_cases h1 : n < 1
  · go_enter Tryd.func11, Tryd.ntmps11
    go_wp2
    go_ret2
    exact ⟨rfl, by (repeat (first | with_reducible assumption | with_reducible exact Below.refl _ _ | with_reducible refine Below.drewN ?_ _ | with_reducible refine Below.drew ?_ | with_reducible refine Below.alloc ?_ (by first | omega | (simp; done) | (simp; omega)) _ | with_reducible refine Below.setCell ?_ (by first | omega | (simp; done) | (simp; omega)) _ | with_reducible refine below_more _ _ ?_ (by first | omega | (simp; done) | (simp; omega))))⟩
  · have h2 : 500 < n := by omega
    go_enter Tryd.func11, Tryd.ntmps11
    go_wp2
    go_ret2
    exact ⟨rfl, by (repeat (first | with_reducible assumption | with_reducible exact Below.refl _ _ | with_reducible refine Below.drewN ?_ _ | with_reducible refine Below.drew ?_ | with_reducible refine Below.alloc ?_ (by first | omega | (simp; done) | (simp; omega)) _ | with_reducible refine Below.setCell ?_ (by first | omega | (simp; done) | (simp; omega)) _ | with_reducible refine below_more _ _ ?_ (by first | omega | (simp; done) | (simp; omega))))⟩
theorem ofNormC_len {n : Nat} (h2 : n ≤ 500) : (ofNormC n).length < 1000000 := by
  have hu : up (4 * n) ≤ 45 := by
    apply Nat.not_lt.1; intro hc
    have := (up_spec (4 * n)).2 45 hc
    omega
  have := ofNormK_len n (up (4 * n) - 1) (by omega)
  unfold ofNormC; omega
theorem ofNormC_in {n : Nat} (h1 : 1 ≤ n) (h2 : n ≤ 500) : ∀ q ∈ ofNormC n, q.InR := fun q hq => by
  have := (mem_ofNormC h1).1 hq
  exact Qt.inR_of_nrm (by omega)
set_option maxRecDepth 10000 in
set_option maxHeartbeats 1000000 in
theorem pofNorm_ok (n : Nat) (h1 : 1 ≤ n) (h2 : n ≤ 500) (w : World) :
    Calls Tryd.prog 11 #[.int .i64 ((n : Int))] w fun e w' => ∃ v, e = .returned (.tuple #[v, .int .i64 0]) ∧ OwnD w' w.heap.size v ((ofNormC n).map Qt.toQ) ∧ Below w.heap.size w w' := by
  have HI := Lib.hid (ofNormC_in h1 h2)
  have hl := ofNormC_len h2
  have HO := Lib.hid (ofNorm_any n h1 h2)
  generalize ofNormC n = L at *
  go_enter Tryd.func11, Tryd.ntmps11
  go_wp2_with (first | (go_at_call 33; refine (HO.out _).mono ?_; rintro e w1 ⟨v1, rfl, hown, hb1⟩; have HW := Lib.hid hown; clear hown) | (go_at_call 32; refine (quats_own HW.out hl HI.out).mono ?_; rintro e w2 ⟨v2, rfl, hown2, hb2⟩; have HW2 := Lib.hid hown2; clear hown2))
  go_ret2
  refine ⟨v2, rfl, ?_, hb1.trans (hb2.mono hb1.size)⟩
  have h := HW2.out
  have hs := hb1.size
  rcases h with ⟨e, h | ⟨g, cap, cur, hv, hg, r⟩⟩
  · exact ⟨e, .inl h⟩
  · exact ⟨e, .inr ⟨g, cap, cur, hv, Nat.le_trans hs hg, r⟩⟩

theorem Qd.ne_cases {p q : Qd} (h : ¬ p = q) : ¬ p.w = q.w ∨ (p.w = q.w ∧ ¬ p.x = q.x) ∨ (p.w = q.w ∧ p.x = q.x ∧ ¬ p.y = q.y) ∨ (p.w = q.w ∧ p.x = q.x ∧ p.y = q.y ∧ ¬ p.z = q.z) ∨ (p.w = q.w ∧ p.x = q.x ∧ p.y = q.y ∧ p.z = q.z ∧ ¬ p.d = q.d) := by
  by_cases e0 : p.w = q.w
  · by_cases e1 : p.x = q.x
    · by_cases e2 : p.y = q.y
      · by_cases e3 : p.z = q.z
        · by_cases e4 : p.d = q.d
          · exact absurd (by cases p; cases q; simp_all) h
          · exact .inr (.inr (.inr (.inr ⟨e0, e1, e2, e3, e4⟩)))
        · exact .inr (.inr (.inr (.inl ⟨e0, e1, e2, e3⟩)))
      · exact .inr (.inr (.inl ⟨e0, e1, e2⟩))
    · exact .inr (.inl ⟨e0, e1⟩)
  · exact .inl e0
/-- The slice v reads as the elements l. -/
def Rd (w : World) (v : Value) (l : List Qd) : Prop := (v = .slice none 0 0 ∧ l = []) ∨ ∃ g cap, v = .slice (some ⟨g, 0, none⟩) l.length cap ∧ g < w.heap.size ∧ ∀ k q, l[k]? = some q → Q5 w g k q
theorem OwnD.rd {W : World} {base : Nat} {v : Value} {l : List Qd} (h : OwnD W base v l) : Rd W v l := by
  rcases h.form with h | ⟨g, cap, h1, _, h2, h3⟩
  · exact .inl h
  · exact .inr ⟨g, cap, h1, h2, h3⟩
theorem Rd.below {W W' : World} {v : Value} {l : List Qd} (h : Rd W v l) (hb : Below W.heap.size W W') : Rd W' v l := by
  rcases h with h | ⟨g, cap, h1, h2, h3⟩
  · exact .inl h
  · exact .inr ⟨g, cap, h1, Nat.lt_of_lt_of_le h2 hb.size, fun k q hq => (h3 k q hq).below hb h2⟩
theorem Rd.len {W : World} {v : Value} {l : List Qd} (h : Rd W v l) : ∃ a cap, v = .slice a l.length cap := by
  rcases h with ⟨rfl, rfl⟩ | ⟨g, cap, rfl, _⟩
  · exact ⟨_, _, rfl⟩
  · exact ⟨_, _, rfl⟩
theorem Rd.row {W : World} {v : Value} {l : List Qd} (h : Rd W v l) (hl : 0 < l.length) : ∃ g cap, v = .slice (some ⟨g, 0, none⟩) l.length cap ∧ g < W.heap.size ∧ ∀ k q, l[k]? = some q → Q5 W g k q := by
  rcases h with ⟨rfl, rfl⟩ | h
  · simp at hl
  · exact h

set_option maxHeartbeats 1000000 in
theorem same_lens (a b : Option Addr) (n m c d : Nat) (_hn : n < 1000000) (_hm : m < 1000000) (h : n ≠ m) (w : World) :
    Calls Tryd.prog 15 #[.slice a n c, .slice b m d] w fun e w' => e = .returned (.bool false) ∧ Below w.heap.size w w' := by
  have h1 : ((n : Int) != (m : Int)) = true := by rw [bne_iff_ne]; omega
  have h2 : ¬ n = m := h
  clear h
  go_enter Tryd.func15, Tryd.ntmps15
  go_wp2
  go_ret
  exact ⟨rfl, by (repeat (first | with_reducible assumption | with_reducible exact Below.refl _ _ | with_reducible refine Below.drewN ?_ _ | with_reducible refine Below.drew ?_ | with_reducible refine Below.alloc ?_ (by first | omega | (simp; done) | (simp; omega)) _ | with_reducible refine Below.setCell ?_ (by first | omega | (simp; done) | (simp; omega)) _ | with_reducible refine below_more _ _ ?_ (by first | omega | (simp; done) | (simp; omega))))⟩
set_option maxHeartbeats 1000000 in
theorem same_zero (a b : Option Addr) (c d : Nat) (w : World) :
    Calls Tryd.prog 15 #[.slice a 0 c, .slice b 0 d] w fun e w' => e = .returned (.bool true) ∧ Below w.heap.size w w' := by
  go_enter Tryd.func15, Tryd.ntmps15
  go_wp2
  refine wp_loop_rounds 1 ?_
  rw [rounds_succ]
  go_wp2
  go_ret
  exact ⟨rfl, by (repeat (first | with_reducible assumption | with_reducible exact Below.refl _ _ | with_reducible refine Below.drewN ?_ _ | with_reducible refine Below.drew ?_ | with_reducible refine Below.alloc ?_ (by first | omega | (simp; done) | (simp; omega)) _ | with_reducible refine Below.setCell ?_ (by first | omega | (simp; done) | (simp; omega)) _ | with_reducible refine below_more _ _ ?_ (by first | omega | (simp; done) | (simp; omega))))⟩
set_option maxRecDepth 10000 in
set_option maxHeartbeats 2000000 in
theorem same_rows (l m : List Qd) (g1 g2 c d : Nat) (hl : l.length < 1000000) (hm : m.length = l.length) (w : World) (b1 : g1 < w.heap.size) (b2 : g2 < w.heap.size) (h1 : ∀ k q, l[k]? = some q → Q5 w g1 k q) (h2 : ∀ k q, m[k]? = some q → Q5 w g2 k q) :
    Calls Tryd.prog 15 #[.slice (some ⟨g1, 0, none⟩) l.length c, .slice (some ⟨g2, 0, none⟩) l.length d] w fun e w' => e = .returned (.bool (decide (l = m))) ∧ Below w.heap.size w w' := by
  have H1 : Hid (∀ k q, l[k]? = some q → Q5 w g1 k q) := h1
  have H2 : Hid (∀ k q, m[k]? = some q → Q5 w g2 k q) := h2
  clear h1 h2
  have HM := Lib.hid hm
  clear hm
  obtain ⟨n, hn⟩ : ∃ n, n = l.length := ⟨_, rfl⟩
  have HN := Lib.hid hn
  rw [← hn] at hl ⊢
  clear hn
  generalize hr : decide (l = m) = r
  have HR := Lib.hid hr
  clear hr
  go_enter Tryd.func15, Tryd.ntmps15
  go_wp2
  go_loopw [5] (fun i wr => ∃ k : Nat, k ≤ n ∧ i = .int .i64 k ∧ Hid (l.take k = m.take k) ∧ Ext w wr) (fun i _ => n - (intOf i).toNat)
  case atStart => exact ⟨0, by omega, rfl, rfl, Ext.refl _⟩
  case round =>
    obtain ⟨k, hk, rfl, HT, hext⟩ := hrel
    by_cases hlt : k < n
    · obtain ⟨p, hp⟩ : ∃ p, l[k]? = some p := ⟨l[k]'(by rw [← HN.out]; exact hlt), List.getElem?_eq_getElem _⟩
      obtain ⟨q, hq⟩ : ∃ q, m[k]? = some q := ⟨m[k]'(by rw [HM.out, ← HN.out]; exact hlt), List.getElem?_eq_getElem _⟩
      obtain ⟨p0, p1, p2, p3, p4⟩ := H1.out k p hp
      obtain ⟨q0, q1, q2, q3, q4⟩ := H2.out k q hq
      have HP := Lib.hid hp
      have HQ := Lib.hid hq
      clear hp hq
      obtain ⟨gx, rfl⟩ := more_of_below (Ext.below hext)
      clear hext
      have kz : (0 : Int) ≤ (k : Int) := by omega
      have kn : (k : Int) < (n : Int) := by omega
      by_cases hpq : p = q
      · subst hpq
        have hE : Qd.eqb ⟨p.w, p.x, p.y, p.z, p.d⟩ ⟨p.w, p.x, p.y, p.z, p.d⟩ = true := Qd.eqb_iff.2 rfl
        go_wp2
        go_region
        go_wp2
        go_roundw
        case rel => exact ⟨k + 1, by omega, by go_num, (by rw [take_snoc' HP.out, take_snoc' HQ.out, HT.out] : l.take (k + 1) = m.take (k + 1)), ext_mk (by (repeat (first | with_reducible assumption | with_reducible exact Below.refl _ _ | with_reducible refine Below.drewN ?_ _ | with_reducible refine Below.drew ?_ | with_reducible refine Below.alloc ?_ (by first | omega | (simp; done) | (simp; omega)) _ | with_reducible refine Below.setCell ?_ (by first | omega | (simp; done) | (simp; omega)) _ | with_reducible refine below_more _ _ ?_ (by first | omega | (simp; done) | (simp; omega)))))⟩
        case measure => simp [intOf]; omega
      · have hE : Qd.eqb ⟨p.w, p.x, p.y, p.z, p.d⟩ ⟨q.w, q.x, q.y, q.z, q.d⟩ = false := by
          rw [← Bool.not_eq_true, Qd.eqb_iff]; exact hpq
        have hf : r = false := by
          rw [← HR.out, decide_eq_false_iff_not]
          intro e
          have h1 := HP.out
          have h2 := HQ.out
          rw [e, h2] at h1
          exact hpq (Option.some.inj h1).symm
        have HF := Lib.hid hf
        have hcs := Qd.ne_cases hpq
        clear hpq hE hf
        rcases hcs with e0 | ⟨e0, e1⟩ | ⟨e0, e1, e2⟩ | ⟨e0, e1, e2, e3⟩ | ⟨e0, e1, e2, e3, e4⟩
        all_goals go_wp2
        all_goals go_region
        all_goals go_wp2
        all_goals go_ret
        all_goals exact ⟨by rw [HF.out]; rfl, by (repeat (first | with_reducible assumption | with_reducible exact Below.refl _ _ | with_reducible refine Below.drewN ?_ _ | with_reducible refine Below.drew ?_ | with_reducible refine Below.alloc ?_ (by first | omega | (simp; done) | (simp; omega)) _ | with_reducible refine Below.setCell ?_ (by first | omega | (simp; done) | (simp; omega)) _ | with_reducible refine below_more _ _ ?_ (by first | omega | (simp; done) | (simp; omega))))⟩
    · obtain rfl : k = n := by omega
      obtain ⟨gx, rfl⟩ := more_of_below (Ext.below hext)
      clear hext
      go_wp2
      go_ret
      have hf : r = true := by
        rw [← HR.out, decide_eq_true_iff]
        have h := HT.out
        rwa [List.take_of_length_le (by rw [← HN.out]; exact Nat.le_refl _), List.take_of_length_le (by rw [HM.out, ← HN.out]; exact Nat.le_refl _)] at h
      exact ⟨by rw [hf]; rfl, by (repeat (first | with_reducible assumption | with_reducible exact Below.refl _ _ | with_reducible refine Below.drewN ?_ _ | with_reducible refine Below.drew ?_ | with_reducible refine Below.alloc ?_ (by first | omega | (simp; done) | (simp; omega)) _ | with_reducible refine Below.setCell ?_ (by first | omega | (simp; done) | (simp; omega)) _ | with_reducible refine below_more _ _ ?_ (by first | omega | (simp; done) | (simp; omega))))⟩
theorem same_any {w : World} {v u : Value} {l m : List Qd} (h1 : Rd w v l) (h2 : Rd w u m) (hl : l.length < 1000000) (hm : m.length < 1000000) :
    Calls Tryd.prog 15 #[v, u] w fun e w' => e = .returned (.bool (decide (l = m))) ∧ Below w.heap.size w w' := by
  by_cases he : l.length = m.length
  · by_cases h0 : l.length = 0
    · obtain ⟨a, c, rfl⟩ := h1.len
      obtain ⟨b, d, rfl⟩ := h2.len
      have e1 : l = [] := List.eq_nil_of_length_eq_zero h0
      have e2 : m = [] := List.eq_nil_of_length_eq_zero (by omega)
      subst e1; subst e2
      exact same_zero a b c d w
    · obtain ⟨g1, c, rfl, b1, r1⟩ := h1.row (by omega)
      obtain ⟨g2, d, rfl, b2, r2⟩ := h2.row (by omega)
      have := same_rows l m g1 g2 c d hl he.symm w b1 b2 r1 r2
      rwa [he] at this ⊢
  · obtain ⟨a, c, rfl⟩ := h1.len
    obtain ⟨b, d, rfl⟩ := h2.len
    have : decide (l = m) = false := by rw [decide_eq_false_iff_not]; intro e; exact he (by rw [e])
    rw [this]
    exact same_lens a b _ _ c d hl hm he w
end Go.Proofs.YthajaabgcbjfkaaDoor
