/- Contract: Group, of the program. -/
import Derived.Test.YthajaabgcbjfkaaDoorJ3
namespace Go.Proofs.YthajaabgcbjfkaaDoor
open Go.RowKit Go.BigFrame
attribute [local go_sem ↓] Go.wp_at_zero Go.wp_at_succ

theorem quadInfo : (Tryd.prog.info? 54).map (fun i => (i.zero, i.size, i.bytes)) = some (some (.agg #[.int .i64 0, .int .i64 0, .int .i64 0, .int .i64 0]), 4, 32) := by kernel_rfl
def OwnQ (w : World) (base : Nat) (v : Value) (l : List Qt) : Prop := w.ownsRow base 54 4 v l.length (flatQ l)
theorem OwnQ.low {W W' : World} {base : Nat} {v : Value} {l : List Qt} (h : OwnQ W base v l) (hb : Below W.heap.size W W') : OwnQ W' base v l :=
  World.ownsRow.kept (row := none) h ⟨hb.os, hb.tape, hb.output, hb.size, fun k hk _ => hb.block k hk⟩ (by cases v.ownBlock <;> simp)
theorem OwnQ.row {W : World} {base : Nat} {v : Value} {l : List Qt} (h : OwnQ W base v l) (hl : 0 < l.length) : ∃ g cap, v = .slice (some ⟨g, 0, none⟩) l.length cap ∧ base ≤ g ∧ g < W.heap.size ∧ ∀ k q, l[k]? = some q → H4 W g k q := by
  obtain ⟨h0, h⟩ := h
  rcases h with ⟨_, hn⟩ | ⟨g, cap, cur, rfl, hb, hg, hle, hm, hsz, htake⟩
  · omega
  · have own : OwnQ W base (.slice (some ⟨g, 0, none⟩) l.length cap) l := ⟨h0, .inr ⟨g, cap, cur, rfl, hb, hg, hle, hm, hsz, htake⟩⟩
    have hc := World.ownsRow.cells own (g := g) rfl
    have add0 : ∀ j, (⟨g, 0, none⟩ : Addr).add j = ⟨g, j, none⟩ := fun j => by unfold Addr.add; split <;> simp_all
    refine ⟨g, cap, rfl, hb, (Array.getElem?_eq_some_iff.1 hg).1, fun k q hq => ?_⟩
    have e := fun j (hj : j < 4) => flatQ_get l k q hq j hj
    exact ⟨by rw [← add0]; exact hc _ _ (e 0 (by omega)), by rw [← add0]; exact hc _ _ (e 1 (by omega)), by rw [← add0]; exact hc _ _ (e 2 (by omega)), by rw [← add0]; exact hc _ _ (e 3 (by omega))⟩
/-- append of one element: besides, the blocks that are not the row's stay. -/
theorem append_quad {w0 w : World} {base : Nat} {v : Value} {l : List Qt} (hown : OwnQ w base v l) (hB : Below base w0 w) (hbase : base ≤ w.heap.size) (q : Qt) (hlen : l.length < 1000000)
    {ops : Array Oper} {rest : List Oper} {o : Oper} {a : Act} {Q : Exit → Act → World → Prop} (hgd : o.guard = none) (s x : Operand)
    (ho : o.op = .call { callee := .builtin .append, args := #[s, x], argTypes := #[55, 55] })
    (hs : a.eval s = v) {m : Nat} (hx : a.eval x = .slice (some ⟨m, 0, none⟩) 1 1) (hm : m = w.heap.size)
    (h : ∀ v' w', OwnQ w' base v' (l ++ [q]) → Below base w0 w' → base ≤ w'.heap.size → w.heap.size ≤ w'.heap.size → (∀ b, b < w.heap.size → some b ≠ v.ownBlock → w'.heap[b]? = w.heap[b]?) → wpList Tryd.prog ops Q rest (a.put o.dst v') w') : wpList Tryd.prog ops Q (o :: rest) a (w.alloc (.cells #[.int .i64 q.w, .int .i64 q.x, .int .i64 q.y, .int .i64 q.z] 54)) := by
  subst hm
  obtain ⟨i0, hi0, hz0, hz1, hz2⟩ := info_parts quadInfo
  refine wpList_append_own _ hgd s x 55 ho base 54 i0 _ 4 32 Tryd.underlying55 hi0 hz0 hz1 hz2 rfl (by omega) v l.length (flatQ l) hs (World.ownsRow.alloc hown _)
    ⟨w.heap.size, 0, none⟩ 1 1 (encQ q) hx rfl ?_ (encQ_one q) (by simp only [maxLen]; omega) (by omega) (by simp; omega) ?_
  · intro j u hu
    have : (⟨w.heap.size, 0, none⟩ : Addr).add j = ⟨w.heap.size, j, none⟩ := by unfold Addr.add; split <;> simp_all
    rw [this, cell_of_row _ _ _ _ _ _ (heap_alloc_new w _)]
    simpa [encQ] using hu
  · intro v' w' h1 h2 _
    have hsz : w.heap.size ≤ w'.heap.size := Nat.le_trans (by simp) h2.size
    refine h v' w' (by unfold OwnQ; rw [flatQ_append]; simpa [flatQ] using h1) ((hB.alloc hbase _).grown h2 (by simp; omega) ?_) (by omega) hsz ?_
    · intro k hk
      exact (hown.lt k hk).1
    · intro b hb hne
      rw [h2.block b (by simp; omega) hne, Below.heap_alloc _ _ _ hb]
theorem cmpLaysQ (blk off size : Nat) (w : World) : CmpLays Tryd.prog 22 #[] encQ 4 cfUp blk off size w :=
  fun _ _ _ _ x y => compare_grow x y _
theorem sortq_any (base g cap : Nat) (l : List Qt) (w : World) (h : w.ownsRow base 54 4 (.slice (some ⟨g, 0, none⟩) l.length cap) l.length (flatQ l)) (hn : l.length < 4611686018427387904) :
    Calls Tryd.prog 21 #[.slice (some ⟨g, 0, none⟩) l.length cap, .func (.func 22) #[] #[]] w fun e w' =>
      e = .returned (.tuple #[]) ∧ w'.ownsRow base 54 4 (.slice (some ⟨g, 0, none⟩) l.length cap) l.length (flatQ (sortUp l)) ∧ w.grownBy w' (some g) := by
  have eg : ∀ args w, (callFunc 22 args).run Tryd.prog w = .ok (.enter 22 args) w := enters_of Tryd.func22 (by kernel_rfl) rfl
  obtain ⟨hH, hg⟩ := holdsK_of_own h
  have hcon := AnyQ.slices_SortFunc_total Tryd.sortQ 4 Tryd.isAgg54 Tryd.sizeOf54 encQ (fun _ => rfl) encQ_one cfUp swoUp 22 #[] g 0 cap l.toArray w eg (cmpLaysQ g 0 _ w) hH hg (by simpa using hn) totUp
  refine Calls.mono hcon ?_
  rintro e w' ⟨he, n, os, rfl⟩
  exact ⟨he, own_sorted (length_sortUp l) h⟩
theorem Qt.lt_or_eq_or_lt (a b : Qt) : a.lt b ∨ a = b ∨ b.lt a := by
  by_cases h1 : a.lt b
  · exact .inl h1
  by_cases h2 : b.lt a
  · exact .inr (.inr h2)
  · exact .inr (.inl (Qt.lt_tri h1 h2))
theorem Qt.lt_asymm' {a b : Qt} (h : a.lt b) (k : b.lt a) : False := Qt.lt_irrefl a (Qt.lt_trans h k)
theorem sortUp_mem {l : List Qt} {x : Qt} : x ∈ sortUp l ↔ x ∈ l := (List.mergeSort_perm _ _).mem_iff
theorem sortUp_pw {l : List Qt} (hn : l.Nodup) : (sortUp l).Pairwise Qt.lt := by
  have hp := List.mergeSort_perm l fun x y => !(ltOf cfUp) y x
  have hn2 : (sortUp l).Nodup := hp.symm.nodup hn
  have hs : (sortUp l).Pairwise fun x y => (!(ltOf cfUp) y x) = true := List.pairwise_mergeSort (fun a b c h1 h2 => by
    rw [Bool.not_eq_true'] at *
    rw [← Bool.not_eq_true, ltUp] at *
    intro h3
    rcases Qt.lt_or_eq_or_lt a b with h | h | h
    · exact h2 (Qt.lt_trans h3 h)
    · rw [h] at h3; exact h2 h3
    · exact h1 h) (fun a b => by
    rw [Bool.or_eq_true, Bool.not_eq_true', Bool.not_eq_true', ← Bool.not_eq_true, ← Bool.not_eq_true, ltUp, ltUp]
    by_cases h : b.lt a
    · exact .inr (fun k => Qt.lt_asymm' h k)
    · exact .inl h) l
  refine (List.Pairwise.and hs hn2).imp ?_
  rintro a b ⟨h1, h2⟩
  rw [Bool.not_eq_true', ← Bool.not_eq_true, ltUp] at h1
  rcases Qt.lt_or_eq_or_lt a b with h | h | h
  · exact h
  · exact absurd h h2
  · exact absurd h h1
theorem take_snocJ {α : Type} {l : List α} {k : Nat} {x : α} (h : l[k]? = some x) : l.take (k + 1) = l.take k ++ [x] := by
  rw [List.take_add_one, h]; rfl
namespace Qt
/-- How far the search has come. -/
structure GInv (L : List Qt) (m : Nat) (A : List Qt) (i k : Nat) : Prop where
  nd : A.Nodup
  one : e1q ∈ A
  re : ∀ x ∈ A, Reach L x
  len : A.length ≤ m
  bd : ∀ x ∈ A, Bd 1000000 x
  cl : ∀ (j : Nat) (x : Qt), j < i → A[j]? = some x → ∀ s ∈ L, op x s ∈ A
  ck : ∀ x, A[i]? = some x → ∀ s ∈ L.take k, op x s ∈ A
theorem ginv_start (L : List Qt) {m : Nat} (hm : 1 ≤ m) : GInv L m [e1q] 0 0 :=
  ⟨by simp, by simp, fun x hx => by rw [List.mem_singleton.1 hx]; exact .one, by simpa using hm, fun x hx => by rw [List.mem_singleton.1 hx]; unfold Bd e1q; decide, fun j x hj => by omega, fun x _ s hs => by simp at hs⟩
theorem ginv_old {L : List Qt} {m : Nat} {A : List Qt} {i k : Nat} {x s : Qt} (h : GInv L m A i k) (hx : A[i]? = some x) (hs : L[k]? = some s) (ho : op x s ∈ A) : GInv L m A i (k + 1) :=
  ⟨h.nd, h.one, h.re, h.len, h.bd, h.cl, fun y hy t ht => by
    rw [hx] at hy; cases hy
    rw [take_snocJ hs] at ht
    rcases List.mem_append.1 ht with ht | ht
    · exact h.ck x hx t ht
    · rw [List.mem_singleton.1 ht]; exact ho⟩
theorem ginv_new {L : List Qt} {m : Nat} {A : List Qt} {i k : Nat} {x s : Qt} (h : GInv L m A i k) (hx : A[i]? = some x) (hs : L[k]? = some s) (ho : op x s ∉ A) (hl : A.length < m) (hb : Bd 1000000 (op x s)) : GInv L m (A ++ [op x s]) i (k + 1) := by
  have hi : i < A.length := (List.getElem?_eq_some_iff.1 hx).1
  have old : ∀ (j : Nat) (y : Qt), j ≤ i → (A ++ [op x s])[j]? = some y → A[j]? = some y := fun j y hj hy => by
    rwa [List.getElem?_append_left (by omega)] at hy
  refine ⟨?_, List.mem_append_left _ h.one, fun y hy => ?_, by rw [List.length_append]; simp; omega, fun y hy => ?_, fun j y hj hy t ht => ?_, fun y hy t ht => ?_⟩
  · rw [List.nodup_append]
    refine ⟨h.nd, by simp, fun a ha b hb e => ?_⟩
    rw [List.mem_singleton.1 hb] at e
    exact ho (e ▸ ha)
  · rcases List.mem_append.1 hy with hy | hy
    · exact h.re y hy
    · rw [List.mem_singleton.1 hy]
      exact .step (h.re x (List.mem_of_getElem? hx)) (List.mem_of_getElem? hs)
  · rcases List.mem_append.1 hy with hy | hy
    · exact h.bd y hy
    · rw [List.mem_singleton.1 hy]; exact hb
  · exact List.mem_append_left _ (h.cl j y hj (old j y (by omega) hy) t ht)
  · have hy' := old i y (Nat.le_refl _) hy
    rw [hx] at hy'; cases hy'
    rw [take_snocJ hs] at ht
    rcases List.mem_append.1 ht with ht | ht
    · exact List.mem_append_left _ (h.ck x hx t ht)
    · rw [List.mem_singleton.1 ht]; exact List.mem_append_right _ (List.mem_singleton.2 rfl)
theorem ginv_next {L : List Qt} {m : Nat} {A : List Qt} {i : Nat} (h : GInv L m A i L.length) : GInv L m A (i + 1) 0 :=
  ⟨h.nd, h.one, h.re, h.len, h.bd, fun j x hj hx s hs => by
    by_cases e : j = i
    · subst e; exact h.ck x hx s (by rw [List.take_length]; exact hs)
    · exact h.cl j x (by omega) hx s hs, fun x _ s hs => by simp at hs⟩
theorem ginv_done {L : List Qt} {m : Nat} {A : List Qt} (h : GInv L m A A.length 0) : Full L m A := by
  refine ⟨h.nd, h.len, fun x => ⟨h.re x, fun hx => ?_⟩, h.bd⟩
  induction hx with
  | one => exact h.one
  | @step a s h1 h2 ih =>
    obtain ⟨j, hj, e⟩ := List.getElem_of_mem ih
    exact h.cl j a hj (by rw [← e]; exact List.getElem?_eq_getElem hj) s h2
theorem ginv_stop {L : List Qt} {m : Nat} {A : List Qt} {i k : Nat} {x s : Qt} (h : GInv L m A i k) (hx : A[i]? = some x) (hs : L[k]? = some s) (ho : op x s ∉ A) (hb : A.length = m ∨ ¬ Bd 1000000 (op x s)) : ¬ ∃ B, Full L m B := by
  rintro ⟨B, hB⟩
  have hr : Reach L (op x s) := .step (h.re x (List.mem_of_getElem? hx)) (List.mem_of_getElem? hs)
  have hm := (hB.mem _).2 hr
  rcases hb with hb | hb
  · have := pig (op x s :: A) B (List.nodup_cons.2 ⟨ho, h.nd⟩) (fun y hy => by
      rcases List.mem_cons.1 hy with rfl | hy
      · exact hm
      · exact (hB.mem y).2 (h.re y hy))
    have := hB.len
    simp only [List.length_cons] at *
    omega
  · exact hb (hB.bd _ hm)
end Qt
def whQ (a : Qt) : Qd := ⟨a.w, a.x, a.y, a.z, 1⟩
def GPost (w : World) (L : List Qt) (m : Nat) (e : Ending) (w' : World) : Prop :=
  ((∃ A v, Qt.Full L m A ∧ e = .returned (.tuple #[v, .int .i64 0]) ∧ OwnD w' w.heap.size v ((sortUp A).map whQ)) ∨ ((¬ ∃ A, Qt.Full L m A) ∧ e = .returned (.tuple #[.slice none 0 0, .int .i64 8]))) ∧ Below w.heap.size w w'
/-- The quaternion of a step. -/
def sq (s : Qd) : Qt := ⟨s.x, s.y, s.z, s.d⟩
theorem bd_nrm {a : Qt} (h : Qt.Bd 1000000 a) : a.nrm ≤ 4000000000000 := by
  obtain ⟨h0, h1, h2, h3⟩ := h
  have q : ∀ x : Int, -1000000 ≤ x ∧ x ≤ 1000000 → x * x ≤ 1000000000000 := fun x hx => by
    have : 0 ≤ (1000000 - x) * (1000000 + x) := Int.mul_nonneg (by omega) (by omega)
    have e : (1000000 - x) * (1000000 + x) = 1000000000000 - x * x := by grind
    omega
  have := q _ h0; have := q _ h1; have := q _ h2; have := q _ h3
  unfold Qt.nrm; omega
set_option maxRecDepth 10000 in
set_option maxHeartbeats 16000000 in
theorem group_walk (vg : Value) (S : List Qd) (m : Nat) (hS : S.length ≤ 12) (hm : 1 ≤ m ∧ m ≤ 60) (hnrd : ∀ s ∈ S.map sq, Qt.Nrd s) (hbd : ∀ s ∈ S.map sq, s.nrm ≤ 4000000) (w : World)
    (k0 : w.cell? ⟨0, 0, none⟩ = some (.int .i64 1)) (k1 : w.cell? ⟨0, 1, none⟩ = some (.int .i64 0)) (k2 : w.cell? ⟨0, 2, none⟩ = some (.int .i64 0)) (k3 : w.cell? ⟨0, 3, none⟩ = some (.int .i64 0))
    (cs : Calls Tryd.prog 16 #[vg] w fun e w' => ∃ gs cp, e = .returned (.tuple #[.slice (some ⟨gs, 0, none⟩) S.length cp, .int .i64 0]) ∧ gs < w'.heap.size ∧ (∀ k q, S[k]? = some q → Q5 w' gs k q) ∧ Below w.heap.size w w') :
    Calls Tryd.prog 5 #[vg, .int .i64 m] w (GPost w (S.map sq) m) := by
  have CS := Lib.hid cs; have HNR : Hid _ := hnrd; have HBD : Hid _ := hbd
  clear cs hnrd hbd
  have mm1 : (1 : Int) ≤ (m : Int) := by omega
  have mm2 : (m : Int) ≤ 60 := by omega
  have h0l : 0 < w.heap.size := World.block_lt_of_cell? w ⟨0, 0, none⟩ k0
  obtain ⟨n, hn⟩ : ∃ n, n = S.length := ⟨_, rfl⟩
  have HN := Lib.hid hn
  rw [← hn] at hS
  clear hn
  go_enter Tryd.func5, Tryd.ntmps5
  go_wp2_with (first | (go_at_call 16; refine CS.out.mono ?_; rintro e w1 ⟨gs, cp, rfl, hgs, hrow, hb1⟩; have HRW : Hid (∀ k q, S[k]? = some q → Q5 w1 gs k q) := hrow; have HB1 := Lib.hid hb1; have j0 := (hb1.cell (p := ⟨0, 0, none⟩) h0l).trans k0; have j1 := (hb1.cell (p := ⟨0, 1, none⟩) h0l).trans k1; have j2 := (hb1.cell (p := ⟨0, 2, none⟩) h0l).trans k2; have j3 := (hb1.cell (p := ⟨0, 3, none⟩) h0l).trans k3; clear hrow k0 k1 k2 k3; rw [← HN.out]))
  have HST : Hid (OwnQ (w1.alloc (.cells #[.int .i64 1, .int .i64 0, .int .i64 0, .int .i64 0] 54)) w1.heap.size (.slice (some ⟨w1.heap.size, 0, none⟩) 1 1) [Qt.e1q] ∧ Below w1.heap.size w1 (w1.alloc (.cells #[.int .i64 1, .int .i64 0, .int .i64 0, .int .i64 0] 54))) :=
    ⟨⟨rfl, .inr ⟨w1.heap.size, 1, #[.int .i64 1, .int .i64 0, .int .i64 0, .int .i64 0], rfl, Nat.le_refl _, heap_alloc_new _ _, Nat.le_refl _, by simp [maxLen], rfl, rfl⟩⟩, by (repeat (first | with_reducible assumption | with_reducible exact Below.refl _ _ | with_reducible refine Below.drewN ?_ _ | with_reducible refine Below.drew ?_ | with_reducible refine Below.alloc ?_ (by first | omega | (simp; done) | (simp; omega)) _ | with_reducible refine Below.setCell ?_ (by first | omega | (simp; done) | (simp; omega)) _ | with_reducible refine below_more _ _ ?_ (by first | omega | (simp; done) | (simp; omega))))⟩
  clear hb1 j0 j1 j2 j3
  go_loopw [8, 9] (fun v i wr => ∃ (A : List Qt) (k : Nat), k ≤ A.length ∧ i = .int .i64 k ∧ Hid (OwnQ wr w1.heap.size v A ∧ Below w1.heap.size w1 wr ∧ Qt.GInv (S.map sq) m A k 0)) (fun _ i _ => 61 - (intOf i).toNat)
  case atStart => exact ⟨[Qt.e1q], 0, by simp, rfl, HST.out.1, HST.out.2, Qt.ginv_start _ hm.1⟩
  case round =>
    clear HST
    obtain ⟨A, i, hi, rfl, HR⟩ := hrel
    obtain ⟨wo, rfl⟩ : ∃ wo : World, wo = wr := ⟨_, rfl⟩
    obtain ⟨own, hB, inv⟩ := HR.out
    have hA1 : 0 < A.length := List.length_pos_of_mem inv.one
    have hA2 := inv.len
    clear HR
    by_cases hin : i < A.length
    · obtain ⟨x, hx⟩ : ∃ x, A[i]? = some x := ⟨_, List.getElem?_eq_getElem hin⟩
      have xn : Qt.Nrd x := Qt.reach_nrd HNR.out (inv.re x (List.mem_of_getElem? hx))
      have xb := bd_nrm (inv.bd x (List.mem_of_getElem? hx))
      have XN := Lib.hid xn
      have HST : Hid (OwnQ wo w1.heap.size u8 A ∧ Below w1.heap.size w1 wo ∧ Qt.GInv (S.map sq) m A i 0 ∧ A[i]? = some x) := ⟨own, hB, inv, hx⟩
      obtain ⟨la, hla⟩ : ∃ la, la = A.length := ⟨_, rfl⟩
      obtain ⟨ga0, ca0, hv0, _, _, _⟩ := own.row hA1
      rw [← hla] at hv0
      have kn0 : (i : Int) < (la : Int) := by omega
      have i60 : i < 60 := by omega
      clear own inv hx xn hA1 hA2 hi hin hla hB
      subst hv0
      go_wp2_with fail
      go_loopw [8, 40] (fun v k wr => ∃ (A' : List Qt) (j : Nat), j ≤ n ∧ k = .int .i64 j ∧ Hid (OwnQ wr w1.heap.size v A' ∧ Below w1.heap.size w1 wr ∧ Qt.GInv (S.map sq) m A' i j ∧ A'[i]? = some x)) (fun _ k _ => n - (intOf k).toNat)
      case atStart => exact ⟨A, 0, by omega, rfl, HST.out⟩
      case round =>
        clear HST kn0
        obtain ⟨A', j, hj, rfl, HR⟩ := hrel
        obtain ⟨wi, rfl⟩ : ∃ wi : World, wi = wr := ⟨_, rfl⟩
        obtain ⟨own, hB, inv, hx⟩ := HR.out
        have hA2 := inv.len
        have hiA : i < A'.length := (List.getElem?_eq_some_iff.1 hx).1
        obtain ⟨ga, ca, rfl, hgb, hgl, hrows⟩ := own.row (by omega)
        have OW := Lib.hid own; have HB2 := Lib.hid hB; have INV := Lib.hid inv; have HX := Lib.hid hx
        clear HR own inv
        by_cases hjn : j < n
        · obtain ⟨s, hs⟩ : ∃ s, S[j]? = some s := ⟨S[j]'(by rw [← HN.out]; exact hjn), List.getElem?_eq_getElem _⟩
          obtain ⟨c0, c1, c2, c3, c4⟩ := (HRW.out j s hs).below hB hgs
          obtain ⟨x0, x1, x2, x3⟩ := hrows i x hx
          have hgi : gs < wi.heap.size := Nat.lt_of_lt_of_le hgs hB.size
          have hsm : (S.map sq)[j]? = some (sq s) := by rw [List.getElem?_map, hs]; rfl
          have HSM := Lib.hid hsm
          have sn := HNR.out (sq s) (List.mem_of_getElem? hsm)
          have sb := HBD.out (sq s) (List.mem_of_getElem? hsm)
          have hnz := Qt.nz_mul (Qt.nrd_nz XN.out) (Qt.nrd_nz sn)
          have hyn : (x.mul (sq s)).nrm ≤ 4000000000000 * 4000000 := by
            rw [Qt.nrm_mul]
            exact Int.mul_le_mul xb sb (Qt.nrm_nonneg _) (by omega)
          have hyI : (x.mul (sq s)).InR := Qt.inR_of_nrm (by omega)
          have TI : Hid (∀ w, Calls Tryd.prog 18 #[.agg #[.int .i64 x.w, .int .i64 x.x, .int .i64 x.y, .int .i64 x.z], .agg #[.int .i64 s.x, .int .i64 s.y, .int .i64 s.z, .int .i64 s.d]] w fun e w' => e = .returned (.agg #[.int .i64 (x.mul (sq s)).w, .int .i64 (x.mul (sq s)).x, .int .i64 (x.mul (sq s)).y, .int .i64 (x.mul (sq s)).z]) ∧ Below w.heap.size w w') := fun w => times_in x (sq s) w hyI
          have RE := Lib.hid (reduced_in (x.mul (sq s)) hyI (g4_pos hnz))
          have hpI : (x.mul (sq s)).red.InR := Qt.inR_of_nrm (by have := (Qt.red_nrm hnz).2; omega)
          have CN : Hid (∀ b : Bool, ((b = true) ↔ ((x.mul (sq s)).red ∈ A')) → ∀ W, Below wi.heap.size wi W → Calls Tryd.prog 19 #[.slice (some ⟨ga, 0, none⟩) A'.length ca, .agg #[.int .i64 ((x.mul (sq s)).red).w, .int .i64 ((x.mul (sq s)).red).x, .int .i64 ((x.mul (sq s)).red).y, .int .i64 ((x.mul (sq s)).red).z]] W fun e w' => e = .returned (.bool b) ∧ Below W.heap.size W w') :=
            fun b hb W hW => contains_any A' ga ca _ (by omega) b hb W (Nat.lt_of_lt_of_le hgl hW.size) (fun k q hq => (hrows k q hq).below hW hgl)
          have WI := Lib.hid (qwithin_any 1000000 (x.mul (sq s)).red hpI)
          have OLD : Hid ((x.mul (sq s)).red ∈ A' → Qt.GInv (S.map sq) m A' i (j + 1)) := fun h => Qt.ginv_old INV.out HX.out HSM.out h
          have NEW : Hid ((x.mul (sq s)).red ∉ A' → A'.length < m → wB 1000000 (x.mul (sq s)).red = true → Qt.GInv (S.map sq) m (A' ++ [(x.mul (sq s)).red]) i (j + 1)) := fun h1 h2 h3 => Qt.ginv_new INV.out HX.out HSM.out h1 h2 (wB_iff.1 h3)
          have STP : Hid ((x.mul (sq s)).red ∉ A' → (A'.length = m ∨ wB 1000000 (x.mul (sq s)).red = false) → ¬ ∃ B, Qt.Full (S.map sq) m B) := fun h1 h2 => Qt.ginv_stop INV.out HX.out HSM.out h1 (h2.imp id fun (h : wB 1000000 (Qt.op x (sq s)) = false) => by rw [← wB_iff, h]; decide)
          have kn1 : (j : Int) < (n : Int) := by omega
          have kn2 : (i : Int) < (A'.length : Int) := by omega
          generalize x.mul (sq s) = y at *
          generalize hyp : y.red = p at *
          clear hs hsm sn sb hnz hyn hyI hpI hB hrows hx hyp INV
          go_wp2_with fail
          (apply Own2.wp_region_own2 9 [.inl _, .inl _, .inl _, .inl _, .inl _, .inl _, .inl _, .inl _, .inr (.cells #[.int .i64 0, .int .i64 0, .int .i64 0, .int .i64 0] 54, fun b => .pointer (some ⟨b, 0, none⟩))] (by kernel_rfl) (by kernel_rfl); simp only [List.take_succ_cons, List.take_zero, List.drop_succ_cons, List.drop_zero]; (refine Own2.lexM_val rfl (fun K hK => ?_); go_simp; (try go_bits); refine ⟨fun w' hw' hcb' => ?_, hK _ ?_⟩; (focus (first | with_reducible exact rfl | (go_at_call 18; (with_reducible exact TI.out _)) | (go_at_call 17; (with_reducible exact RE.out _)) | (obtain ⟨gx, rfl⟩ := more_of_below (Ext.below hw'); go_simp; exact rfl))); clear hK K); (refine Own2.lexM_val rfl (fun K hK => ?_); go_simp; (try go_bits); refine ⟨fun w' hw' hcb' => ?_, hK _ ?_⟩; (focus (first | with_reducible exact rfl | (go_at_call 18; (with_reducible exact TI.out _)) | (go_at_call 17; (with_reducible exact RE.out _)) | (obtain ⟨gx, rfl⟩ := more_of_below (Ext.below hw'); go_simp; exact rfl))); clear hK K); (refine Own2.lexM_val rfl (fun K hK => ?_); go_simp; (try go_bits); refine ⟨fun w' hw' hcb' => ?_, hK _ ?_⟩; (focus (first | with_reducible exact rfl | (go_at_call 18; (with_reducible exact TI.out _)) | (go_at_call 17; (with_reducible exact RE.out _)) | (obtain ⟨gx, rfl⟩ := more_of_below (Ext.below hw'); go_simp; exact rfl))); clear hK K); (refine Own2.lexM_val rfl (fun K hK => ?_); go_simp; (try go_bits); refine ⟨fun w' hw' hcb' => ?_, hK _ ?_⟩; (focus (first | with_reducible exact rfl | (go_at_call 18; (with_reducible exact TI.out _)) | (go_at_call 17; (with_reducible exact RE.out _)) | (obtain ⟨gx, rfl⟩ := more_of_below (Ext.below hw'); go_simp; exact rfl))); clear hK K); (refine Own2.lexM_val rfl (fun K hK => ?_); go_simp; (try go_bits); refine ⟨fun w' hw' hcb' => ?_, hK _ ?_⟩; (focus (first | with_reducible exact rfl | (go_at_call 18; (with_reducible exact TI.out _)) | (go_at_call 17; (with_reducible exact RE.out _)) | (obtain ⟨gx, rfl⟩ := more_of_below (Ext.below hw'); go_simp; exact rfl))); clear hK K); (refine Own2.lexM_val rfl (fun K hK => ?_); go_simp; (try go_bits); refine ⟨fun w' hw' hcb' => ?_, hK _ ?_⟩; (focus (first | with_reducible exact rfl | (go_at_call 18; (with_reducible exact TI.out _)) | (go_at_call 17; (with_reducible exact RE.out _)) | (obtain ⟨gx, rfl⟩ := more_of_below (Ext.below hw'); go_simp; exact rfl))); clear hK K); (refine Own2.lexM_val rfl (fun K hK => ?_); go_simp; (try go_bits); refine ⟨fun w' hw' hcb' => ?_, hK _ ?_⟩; (focus (first | with_reducible exact rfl | (go_at_call 18; (with_reducible exact TI.out _)) | (go_at_call 17; (with_reducible exact RE.out _)) | (obtain ⟨gx, rfl⟩ := more_of_below (Ext.below hw'); go_simp; exact rfl))); clear hK K); (refine Own2.lexM_val rfl (fun K hK => ?_); go_simp; (try go_bits); refine ⟨fun w' hw' hcb' => ?_, hK _ ?_⟩; (focus (first | with_reducible exact rfl | (go_at_call 18; (with_reducible exact TI.out _)) | (go_at_call 17; (with_reducible exact RE.out _)) | (obtain ⟨gx, rfl⟩ := more_of_below (Ext.below hw'); go_simp; exact rfl))); clear hK K); (refine Own2.lexM_mem rfl ?_ (fun w => by first | rfl | (go_simp; rfl) | (go_simp; done)) (fun b31 hb31 hn31 => ?_); (focus (first | rfl | (go_simp <;> rfl) | decide)); simp only [Act.put, List.setIfInBounds_toArray, List.set_cons_succ, List.set_cons_zero]); intro w3 hw3; have hB3 := hw3.1; have hO31 := (hw3.2 _ b31 _ (Or.inl ⟨rfl, rfl, rfl⟩)).2; clear hw3; obtain ⟨g3, g3', hE3, rfl⟩ := split_block hB3 hb31 hO31; clear hB3 hb31 hO31; (try clear hn31); (repeat (first | simp only [size_more_eq] at hE3 | simp only [World.size_alloc] at hE3)); subst hE3)
          clear c0 c1 c2 c3 c4 x0 x1 x2 x3 TI RE
          by_cases hp : p ∈ A'
          · have CN2 := Lib.hid (CN.out true (Iff.intro (fun _ => hp) (fun _ => rfl)))
            have hinv := OLD.out hp
            clear CN OLD NEW STP WI hp
            go_wp2_with (first | (go_at_call 19; (with_reducible refine (CN2.out _ ?_).mono ?_); (focus ((repeat (first | with_reducible assumption | with_reducible exact Below.refl _ _ | with_reducible refine Below.drewN ?_ _ | with_reducible refine Below.drew ?_ | with_reducible refine Below.alloc ?_ (by first | omega | (simp; done) | (simp; omega)) _ | with_reducible refine Below.setCell ?_ (by first | omega | (simp; done) | (simp; omega)) _ | with_reducible refine below_more _ _ ?_ (by first | omega | (simp; done) | (simp; omega)))))); rintro e w5 ⟨rfl, hb5⟩; obtain ⟨g5, rfl⟩ := more_of_below hb5; clear hb5))
            go_roundw
            case rel =>
              have hB := HB2.out
              refine ⟨A', j + 1, by omega, by go_num, ?_, by (repeat (first | with_reducible assumption | with_reducible exact Below.refl _ _ | with_reducible refine Below.drewN ?_ _ | with_reducible refine Below.drew ?_ | with_reducible refine Below.alloc ?_ (by first | omega | (simp; done) | (simp; omega)) _ | with_reducible refine Below.setCell ?_ (by first | omega | (simp; done) | (simp; omega)) _ | with_reducible refine below_more _ _ ?_ (by first | omega | (simp; done) | (simp; omega)))), hinv, HX.out⟩
              exact OW.out.low (by (repeat (first | with_reducible assumption | with_reducible exact Below.refl _ _ | with_reducible refine Below.drewN ?_ _ | with_reducible refine Below.drew ?_ | with_reducible refine Below.alloc ?_ (by first | omega | (simp; done) | (simp; omega)) _ | with_reducible refine Below.setCell ?_ (by first | omega | (simp; done) | (simp; omega)) _ | with_reducible refine below_more _ _ ?_ (by first | omega | (simp; done) | (simp; omega)))))
            case measure => simp [intOf]; omega
          · have CN2 := Lib.hid (CN.out false (Iff.intro (fun h => absurd h (by decide)) (fun h => absurd h hp)))
            have NEW2 := Lib.hid (NEW.out hp); have STP2 := Lib.hid (STP.out hp)
            clear CN OLD NEW STP hp
            by_cases hlm : A'.length = m
            · have el : ((A'.length : Int) == (m : Int)) = true := by simp [hlm]
              have el2 : (A'.length == m) = true := by simp [hlm]
              have STOP := STP2.out (.inl hlm)
              clear NEW2 STP2 WI hlm
              go_wp2_with (first | (go_at_call 19; (with_reducible refine (CN2.out _ ?_).mono ?_); (focus ((repeat (first | with_reducible assumption | with_reducible exact Below.refl _ _ | with_reducible refine Below.drewN ?_ _ | with_reducible refine Below.drew ?_ | with_reducible refine Below.alloc ?_ (by first | omega | (simp; done) | (simp; omega)) _ | with_reducible refine Below.setCell ?_ (by first | omega | (simp; done) | (simp; omega)) _ | with_reducible refine below_more _ _ ?_ (by first | omega | (simp; done) | (simp; omega)))))); rintro e w5 ⟨rfl, hb5⟩; obtain ⟨g5, rfl⟩ := more_of_below hb5; clear hb5))
              refine bodyPost_ret (v := .tuple #[.slice none 0 0, .int .i64 8]) (by simp [results, Tryd.results5, go_sem]) rfl ⟨.inr ⟨STOP, rfl⟩, ?_⟩
              have hB := HB2.out
              have hBw := HB1.out
              exact Below.trans hBw (Below.mono (B := w1.heap.size) (by (repeat (first | with_reducible assumption | with_reducible exact Below.refl _ _ | with_reducible refine Below.drewN ?_ _ | with_reducible refine Below.drew ?_ | with_reducible refine Below.alloc ?_ (by first | omega | (simp; done) | (simp; omega)) _ | with_reducible refine Below.setCell ?_ (by first | omega | (simp; done) | (simp; omega)) _ | with_reducible refine below_more _ _ ?_ (by first | omega | (simp; done) | (simp; omega))))) hBw.size)
            · have el : ((A'.length : Int) == (m : Int)) = false := by simp; omega
              have el2 : (A'.length == m) = false := by simp; omega
              have hlt : A'.length < m := by omega
              cases hw : wB 1000000 p
              · have STOP := STP2.out (.inr hw)
                rw [hw] at WI
                clear NEW2 STP2 hlm hw
                go_wp2_with (first | (go_at_call 19; (with_reducible refine (CN2.out _ ?_).mono ?_); (focus ((repeat (first | with_reducible assumption | with_reducible exact Below.refl _ _ | with_reducible refine Below.drewN ?_ _ | with_reducible refine Below.drew ?_ | with_reducible refine Below.alloc ?_ (by first | omega | (simp; done) | (simp; omega)) _ | with_reducible refine Below.setCell ?_ (by first | omega | (simp; done) | (simp; omega)) _ | with_reducible refine below_more _ _ ?_ (by first | omega | (simp; done) | (simp; omega)))))); rintro e w5 ⟨rfl, hb5⟩; obtain ⟨g5, rfl⟩ := more_of_below hb5; clear hb5) | (go_at_call 20; with_reducible refine (WI.out _).mono ?_; rintro e w6 ⟨rfl, hb6⟩; obtain ⟨g6, rfl⟩ := more_of_below hb6; clear hb6))
                refine bodyPost_ret (v := .tuple #[.slice none 0 0, .int .i64 8]) (by simp [results, Tryd.results5, go_sem]) rfl ⟨.inr ⟨STOP, rfl⟩, ?_⟩
                have hB := HB2.out
                have hBw := HB1.out
                exact Below.trans hBw (Below.mono (B := w1.heap.size) (by (repeat (first | with_reducible assumption | with_reducible exact Below.refl _ _ | with_reducible refine Below.drewN ?_ _ | with_reducible refine Below.drew ?_ | with_reducible refine Below.alloc ?_ (by first | omega | (simp; done) | (simp; omega)) _ | with_reducible refine Below.setCell ?_ (by first | omega | (simp; done) | (simp; omega)) _ | with_reducible refine below_more _ _ ?_ (by first | omega | (simp; done) | (simp; omega))))) hBw.size)
              · have hinv := NEW2.out hlt hw
                rw [hw] at WI
                have hlen : A'.length < 1000000 := by omega
                clear NEW2 STP2 hlm hw
                go_wp2_with (first | (go_at_call 19; (with_reducible refine (CN2.out _ ?_).mono ?_); (focus ((repeat (first | with_reducible assumption | with_reducible exact Below.refl _ _ | with_reducible refine Below.drewN ?_ _ | with_reducible refine Below.drew ?_ | with_reducible refine Below.alloc ?_ (by first | omega | (simp; done) | (simp; omega)) _ | with_reducible refine Below.setCell ?_ (by first | omega | (simp; done) | (simp; omega)) _ | with_reducible refine below_more _ _ ?_ (by first | omega | (simp; done) | (simp; omega)))))); rintro e w5 ⟨rfl, hb5⟩; obtain ⟨g5, rfl⟩ := more_of_below hb5; clear hb5) | (go_at_call 20; with_reducible refine (WI.out _).mono ?_; rintro e w6 ⟨rfl, hb6⟩; obtain ⟨g6, rfl⟩ := more_of_below hb6; clear hb6) | (at_builtin; go_must (refine append_quad (w0 := w1) (base := w1.heap.size) (v := .slice (some ⟨ga, 0, none⟩) A'.length ca) (l := A') ?_ ?_ ?_ p hlen rfl (.tmp 64) (.tmp 66) rfl (by rfl) (by rfl) (by simp) ?_); (focus (exact OW.out.low (by (repeat (first | with_reducible assumption | with_reducible exact Below.refl _ _ | with_reducible refine Below.drewN ?_ _ | with_reducible refine Below.drew ?_ | with_reducible refine Below.alloc ?_ (by first | omega | (simp; done) | (simp; omega)) _ | with_reducible refine Below.setCell ?_ (by first | omega | (simp; done) | (simp; omega)) _ | with_reducible refine below_more _ _ ?_ (by first | omega | (simp; done) | (simp; omega))))))); (focus (have hB := HB2.out; (repeat (first | with_reducible assumption | with_reducible exact Below.refl _ _ | with_reducible refine Below.drewN ?_ _ | with_reducible refine Below.drew ?_ | with_reducible refine Below.alloc ?_ (by first | omega | (simp; done) | (simp; omega)) _ | with_reducible refine Below.setCell ?_ (by first | omega | (simp; done) | (simp; omega)) _ | with_reducible refine below_more _ _ ?_ (by first | omega | (simp; done) | (simp; omega)))))); (focus (have := HB2.out.size; first | omega | (simp; omega) | (simp only [size_more_eq, World.size_alloc, World.size_setCell]; omega))); intro v7 w7 hown7 hB7 hz7 hs7 hk7; have HOW7 := Lib.hid hown7; clear hown7 hk7))
                go_roundw
                case rel => exact ⟨A' ++ [p], j + 1, by omega, by go_num, HOW7.out, hB7, hinv, by rw [List.getElem?_append_left hiA]; exact HX.out⟩
                case measure => simp [intOf]; omega
        · obtain rfl : j = n := by omega
          have hinv : Qt.GInv (S.map sq) m A' (i + 1) 0 := Qt.ginv_next (by rw [List.length_map, ← HN.out]; exact INV.out)
          clear INV hrows
          go_wp2_with fail
          go_roundw
          case rel => exact ⟨A', i + 1, by omega, by go_num, OW.out, HB2.out, hinv⟩
          case measure => simp [intOf]; omega
    · obtain rfl : i = A.length := by omega
      have hfull := Qt.ginv_done inv
      have FU := Lib.hid hfull
      obtain ⟨ga, ca, rfl, hgb, hgl, _⟩ := own.row hA1
      have hlen : (sortUp A).length = A.length := length_sortUp A
      have HLE := Lib.hid hlen
      have OW := Lib.hid own; have HB2 := Lib.hid hB
      have SO : Hid (Calls Tryd.prog 21 #[.slice (some ⟨ga, 0, none⟩) A.length ca, .func (.func 22) #[] #[]] wo fun e w' => e = .returned (.tuple #[]) ∧ OwnQ w' w1.heap.size (.slice (some ⟨ga, 0, none⟩) A.length ca) (sortUp A) ∧ Below w1.heap.size w1 w') :=
        (sortq_any w1.heap.size ga ca A wo OW.out (by omega)).mono (by
          rintro e w2 ⟨he, h2, h3⟩
          refine ⟨he, by unfold OwnQ; rw [hlen]; exact h2, hB.grown h3 hB.size (fun j hj => by cases hj; exact hgb)⟩)
      clear inv hfull own hB hlen
      go_wp2_with (first | (go_at_call 21; (with_reducible refine SO.out.mono ?_); rintro e w2 ⟨rfl, hown2, hB3⟩; obtain ⟨gq, cq, hvq, _, hgq, hrq⟩ := hown2.row (by rw [HLE.out]; omega); have hgq' : gq = ga := (by injection hvq with h1; injection h1 with h1; injection h1 with h1; exact h1.symm); subst hgq'; have HRQ : Hid (∀ k q, (sortUp A)[k]? = some q → H4 w2 gq k q) := hrq; have HB4 := Lib.hid hB3; clear hown2 hvq hrq hB3))
      generalize hT : sortUp A = T at *
      have HT := Lib.hid hT
      clear hT
      generalize hla : A.length = la at *
      have la2 : la ≤ 60 := by omega
      have hg2 : gq < w2.heap.size := hgq
      clear hla hi hin SO OW
      go_loopw [13, 73] (fun v i wr => ∃ k : Nat, k ≤ la ∧ i = .int .i64 k ∧ DInv w2.heap.size w2 v ((T.take k).map whQ) wr) (fun _ i _ => la - (intOf i).toNat)
      case atStart => exact ⟨0, by omega, rfl, OwnD.nil _ _, Below.refl _ _, Nat.le_refl _⟩
      case round =>
        obtain ⟨k, hk, rfl, hown, hB, hz⟩ := hrel
        by_cases hkn : k < la
        · obtain ⟨q, hq⟩ : ∃ q, T[k]? = some q := ⟨T[k]'(by rw [HLE.out]; exact hkn), List.getElem?_eq_getElem _⟩
          obtain ⟨e0, e1, e2, e3⟩ := (HRQ.out k q hq).below hB hg2
          have hgw : gq < wr.heap.size := Nat.lt_of_lt_of_le hg2 hB.size
          have kn : (k : Int) < (la : Int) := by omega
          have HQ := Lib.hid hq
          have HO := Lib.hid hown
          have HBx := Lib.hid hB
          clear hq hown hB
          go_wp2_with (first | (go_at_call 23; with_reducible refine (qquat_any q _).mono ?_; rintro e w2 ⟨rfl, hb2⟩; obtain ⟨g2, rfl⟩ := more_of_below hb2; clear hb2) | (at_builtin; go_must (refine append_quat ((HO.out.alloc _).mor _) (w0 := w2) (by have hB := HBx.out; (repeat (first | with_reducible assumption | with_reducible exact Below.refl _ _ | with_reducible refine Below.drewN ?_ _ | with_reducible refine Below.drew ?_ | with_reducible refine Below.alloc ?_ (by first | omega | (simp; done) | (simp; omega)) _ | with_reducible refine Below.setCell ?_ (by first | omega | (simp; done) | (simp; omega)) _ | with_reducible refine below_more _ _ ?_ (by first | omega | (simp; done) | (simp; omega))))) (by simp; omega) (whQ q) (by simp; omega) rfl (.tmp 77) (.tmp 80) rfl (by rfl) (by rfl) (by simp) ?_); intro v2 w3 hown2 hB2 hz2))
          go_roundw
          case rel =>
            refine ⟨k + 1, by omega, by go_num, ?_, hB2, hz2⟩
            rw [take_snoc' HQ.out, List.map_append]; exact hown2
          case measure => simp [intOf]; omega
        · obtain rfl : k = la := by omega
          have hown' : OwnD wr w2.heap.size u13 (T.map whQ) := by have h := hown; rw [List.take_of_length_le (by rw [HLE.out]; exact Nat.le_refl _)] at h; exact h
          have HO := Lib.hid hown'
          have hB4 := HB4.out
          have hBw := HB1.out
          have hb2 : Below w.heap.size w w2 := Below.trans hBw (hB4.mono hBw.size)
          have hbw : Below w.heap.size w wr := Below.trans hb2 (hB.mono hb2.size)
          clear hown hown'
          go_wp2
          refine bodyPost_ret (v := .tuple #[u13, .int .i64 0]) (by simp [results, Tryd.results5, go_sem]) rfl ⟨.inl ⟨A, u13, FU.out, rfl, ?_⟩, hbw⟩
          rw [HT.out]
          obtain ⟨e, h⟩ := HO.out
          rcases h with h | ⟨g, cap, cur, hv, hg, r⟩
          · exact ⟨e, .inl h⟩
          · exact ⟨e, .inr ⟨g, cap, cur, hv, Nat.le_trans hb2.size hg, r⟩⟩
end Go.Proofs.YthajaabgcbjfkaaDoor
