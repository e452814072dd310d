/- Contract: the reference's Permutation; Ints. -/
import Derived.Test.YthajaabgcbjfkaaGreatY8
import Derived.BigQuiet
namespace Go.Proofs.YthajaabgcbjfkaaGreat
open Go.RowKit Go.BigFrame
attribute [local go_sem ↓] Go.wp_at_zero Go.wp_at_succ

/-- append of one number: besides, the blocks that are not the row's stay. -/
theorem append_z2 {w0 w : World} {base : Nat} {v : Value} {l : List Int} (hown : OwnZ w base v l) (hB : Below base w0 w) (hbase : base ≤ w.heap.size) (x : Int) (hlen : l.length < 1000000)
    {ops : Array Oper} {rest : List Oper} {o : Oper} {a : Act} {Q : Exit → Act → World → Prop} (hgd : o.guard = none) (s y : Operand)
    (ho : o.op = .call { callee := .builtin .append, args := #[s, y], argTypes := #[26, 26] })
    (hs : a.eval s = v) {m : Nat} (hx : a.eval y = .slice (some ⟨m, 0, none⟩) 1 1) (hm : m = w.heap.size)
    (h : ∀ v' w', OwnZ w' base v' (l ++ [x]) → Below base w0 w' → base ≤ w'.heap.size → w.heap.size ≤ w'.heap.size → (∀ b, b < w.heap.size → some b ≠ v.ownBlock → w'.heap[b]? = w.heap[b]?) → wpList Tryz.prog ops Q rest (a.put o.dst v') w') : wpList Tryz.prog ops Q (o :: rest) a (w.alloc (.cells #[.int .i64 x] 3)) := by
  subst hm
  obtain ⟨i0, hi0, hz0, hz1, hz2⟩ := info_parts intInfo
  refine wpList_append_own _ hgd s y 26 ho base 3 i0 _ 1 8 Tryz.underlying26 hi0 hz0 hz1 hz2 rfl (by omega) v l.length (flatZ l) hs (hown.alloc _)
    ⟨w.heap.size, 0, none⟩ 1 1 [.int .i64 x] hx rfl ?_ (encZ_one x) (by simp only [maxLen]; omega) (by omega) (by simp; omega) ?_
  · intro j u hu
    have : (⟨w.heap.size, 0, none⟩ : Addr).add j = ⟨w.heap.size, j, none⟩ := by unfold Addr.add; split <;> simp_all
    rw [this, cell_of_row _ _ _ _ _ _ (heap_alloc_new w _)]
    simpa using hu
  · intro v' w' h1 h2 _
    have hsz : w.heap.size ≤ w'.heap.size := Nat.le_trans (by simp) h2.size
    refine h v' w' (by unfold OwnZ; simpa [flatZ] using h1) ((hB.alloc hbase _).grown h2 (by simp; omega) ?_) (by omega) hsz ?_
    · intro k hk
      exact (hown.lt k hk).1
    · intro b hb hne
      rw [h2.block b (by simp; omega) hne, Below.heap_alloc _ _ _ hb]
theorem drew_alloc' (w : World) (o : Obj) : (w.alloc o).drew = w.drew.alloc o := rfl
theorem OwnZ.row' {W : World} {b : Nat} {v : Value} {l : List Int} (h : OwnZ W b v l) : (v = .slice none 0 0 ∧ l = []) ∨ ∃ g c, v = .slice (some ⟨g, 0, none⟩) l.length c ∧ g < W.heap.size := by
  obtain ⟨_, h2⟩ := h
  rcases h2 with ⟨h2, h3⟩ | ⟨g, cap, cur, hv, hg, hh, r⟩
  · exact .inl ⟨h2, List.eq_nil_of_length_eq_zero h3⟩
  · exact .inr ⟨g, cap, hv, (Array.getElem?_eq_some_iff.1 hh).1⟩
theorem OwnZ.ne {W : World} {b k : Nat} {v : Value} {l : List Int} (h : OwnZ W b v l) (hk : W.heap.size ≤ k) : some k ≠ v.ownBlock := by
  intro e
  have := (h.lt k e.symm).2
  omega
theorem H4.heap {w w' : World} {g k : Nat} {q : Qt} (h : H4 w g k q) (e : w'.heap[g]? = w.heap[g]?) : H4 w' g k q :=
  ⟨by rw [World.cell?_of_block (by exact e)]; exact h.c0, by rw [World.cell?_of_block (by exact e)]; exact h.c1, by rw [World.cell?_of_block (by exact e)]; exact h.c2, by rw [World.cell?_of_block (by exact e)]; exact h.c3⟩

set_option maxRecDepth 10000 in
set_option maxHeartbeats 8000000 in
theorem rperm_walk (X : Qt) (p : Int) (L S : List Qt) (J : List Nat) (hL : L.length < 1000000) (hL0 : L ≠ []) (lS : S.length = L.length) (lJ : J.length = L.length)
    (ca : ∀ w, Calls Tryz.prog 27 #[.int .i64 p] w fun e w' => ∃ v, e = .returned v ∧ OwnR w' w.heap.size v L ∧ Below w.heap.size w w')
    (ce : ∀ (k : Nat) (y s : Qt), L[k]? = some y → S[k]? = some s → ∃ t : Qt, ∀ w, Calls Tryz.prog 28 #[.agg #[.int .i64 X.w, .int .i64 X.x, .int .i64 X.y, .int .i64 X.z], .agg #[.int .i64 y.w, .int .i64 y.x, .int .i64 y.y, .int .i64 y.z]] w fun e w' => e = .returned (.tuple #[.agg #[.int .i64 s.w, .int .i64 s.x, .int .i64 s.y, .int .i64 s.z], .agg #[.int .i64 t.w, .int .i64 t.x, .int .i64 t.y, .int .i64 t.z]]) ∧ Below w.heap.size w w')
    (ci : ∀ (k : Nat) (s : Qt) (j : Nat), S[k]? = some s → J[k]? = some j → L[j]? = some s ∧ ∀ i, L[i]? = some s → i = j) (w : World) :
    Calls Tryz.prog 12 #[.agg #[.int .i64 X.w, .int .i64 X.x, .int .i64 X.y, .int .i64 X.z], .int .i64 p] w fun e w' => ∃ v, e = .returned v ∧ OwnZ w' w.heap.size v (J.map fun (j : Nat) => (j : Int)) ∧ Below w.heap.size w w' := by
  have CA := Lib.hid ca; have CE : Hid _ := ce; have CI : Hid _ := ci
  clear ca ce ci
  go_enter Tryz.func12, Tryz.ntmps12
  go_wp2_with (first | (go_at_call 27; refine (CA.out _).mono ?_; rintro e W0 ⟨v4, rfl, hown, hb4⟩; have hrd := hown.rd; rcases hrd with ⟨_, h0⟩ | ⟨g4, cap4, rfl, _, hg4, hrow4⟩; (exact absurd h0 hL0); have HRW := Lib.hid hrow4; have HBW := Lib.hid hb4; clear hown hb4 hrow4))
  have hb4 := HBW.out
  have hB0 : Below w.heap.size w W0 := Below.trans (by (repeat (first | with_reducible assumption | with_reducible exact Below.refl _ _ | with_reducible refine Below.drewN ?_ _ | with_reducible refine Below.drew ?_ | with_reducible refine Below.alloc ?_ (by first | omega | (simp; done) | (simp; omega)) _ | with_reducible refine Below.setCell ?_ (by first | omega | (simp; done) | (simp; omega)) _ | with_reducible refine below_more _ _ ?_ (by first | omega | (simp; done) | (simp; omega))))) (hb4.mono (by simp))
  have hg0 : w.heap.size < W0.heap.size := Nat.lt_of_lt_of_le (by simp) hb4.size
  have z0 : H4 W0 w.heap.size 0 X := by
    refine H4.below (w := w.alloc (.cells #[.int .i64 X.w, .int .i64 X.x, .int .i64 X.y, .int .i64 X.z] 32)) ⟨?_, ?_, ?_, ?_⟩ hb4 (by simp)
    all_goals go_simp
  have ZL : Hid (∀ k q, L[k]? = some q → H4 W0 g4 k q) := HRW.out
  have Z0 := Lib.hid z0
  have HB0 := Lib.hid hB0
  obtain ⟨n, hn⟩ : ∃ n, n = L.length := ⟨_, rfl⟩
  have HN := Lib.hid hn
  have LS := Lib.hid lS; have LJ := Lib.hid lJ
  rw [← hn] at hL ⊢
  clear hn z0 hB0 lS lJ hb4 HBW HRW CA hL0
  go_loopw [6, 7] (fun v i wr => ∃ k : Nat, k ≤ n ∧ i = .int .i64 k ∧ ZInv W0.heap.size W0 v ((J.take k).map fun (j : Nat) => (j : Int)) wr) (fun _ i _ => n - (intOf i).toNat)
  case atStart => exact ⟨0, by omega, rfl, OwnZ.nil _ _, Below.refl _ _, Nat.le_refl _⟩
  case round =>
    obtain ⟨k, hk, rfl, hown, hB, hz⟩ := hrel
    obtain ⟨wo, rfl⟩ : ∃ wo : World, wo = wr := ⟨_, rfl⟩
    by_cases hkn : k < n
    · obtain ⟨y, hy⟩ : ∃ y, L[k]? = some y := ⟨L[k]'(by rw [← HN.out]; exact hkn), List.getElem?_eq_getElem _⟩
      obtain ⟨s, hs⟩ : ∃ s, S[k]? = some s := ⟨S[k]'(by rw [LS.out, ← HN.out]; exact hkn), List.getElem?_eq_getElem _⟩
      obtain ⟨j, hj⟩ : ∃ j, J[k]? = some j := ⟨J[k]'(by rw [LJ.out, ← HN.out]; exact hkn), List.getElem?_eq_getElem _⟩
      obtain ⟨t, ht⟩ := CE.out k y s hy hs
      obtain ⟨hi1, hi2⟩ := CI.out k s j hs hj
      have hjn : j < n := by rw [HN.out]; exact (List.getElem?_eq_some_iff.1 hi1).1
      obtain ⟨x0, x1, x2, x3⟩ := Z0.out.below hB hg0
      obtain ⟨y0, y1, y2, y3⟩ := (ZL.out k y hy).below hB hg4
      have gx0 : w.heap.size < wo.heap.size := Nat.lt_of_lt_of_le hg0 hB.size
      have gx4 : g4 < wo.heap.size := Nat.lt_of_lt_of_le hg4 hB.size
      have kn : (k : Int) < (n : Int) := by omega
      have HJ := Lib.hid hj
      have HT := Lib.hid ht
      have HI1 := Lib.hid hi1
      have HI2 : Hid _ := hi2
      have OO := Lib.hid hown
      have BB := Lib.hid hB
      have hPl : ((J.take k).map fun (j : Nat) => (j : Int)).length < 1000000 := by simp; omega
      have hsn : (J.take (k + 1)).map (fun (j : Nat) => (j : Int)) = (J.take k).map (fun (j : Nat) => (j : Int)) ++ [(j : Int)] := by rw [take_snocN hj, List.map_append]; rfl
      have HS := Lib.hid hsn
      generalize (J.take k).map (fun (j : Nat) => (j : Int)) = P at *
      clear hy hs hj ht hi1 hi2 hown hB CE CI hsn
      go_upto_region 6 with fail
      go_cut [8, 9] from 13 to 43 (fun s8 s9 wx => Below wo.heap.size wo wx ∧ ∃ b8, s8 = .pointer (some ⟨b8, 0, none⟩) ∧ H4 wx b8 0 s ∧ b8 < wx.heap.size ∧ wo.heap.size ≤ b8)
      case first =>
        go_region_with ((go_at_call 28; with_reducible refine (HT.out _).mono ?_; rintro e w' ⟨rfl, hb9⟩; obtain ⟨g9, rfl⟩ := more_of_below hb9; clear hb9))
        all_goals (clear x0 x1 x2 x3 y0 y1 y2 y3 HT)
        all_goals (go_wp2_with fail; go_meet; refine ⟨by (repeat (first | with_reducible assumption | with_reducible exact Below.refl _ _ | with_reducible refine Below.drewN ?_ _ | with_reducible refine Below.drew ?_ | with_reducible refine Below.alloc ?_ (by first | omega | (simp; done) | (simp; omega)) _ | with_reducible refine Below.setCell ?_ (by first | omega | (simp; done) | (simp; omega)) _ | with_reducible refine below_more _ _ ?_ (by first | omega | (simp; done) | (simp; omega)))), _, rfl, ⟨?_, ?_, ?_, ?_⟩, ?_, ?_⟩)
        all_goals (first | (go_simp; done) | omega | (simp only [size_more_eq, World.size_alloc, World.size_setCell]; omega) | (simp; omega))
      case rest =>
        clear x0 x1 x2 x3 y0 y1 y2 y3 HT
        obtain ⟨hb, b8, rfl, hd, l8, m8⟩ := hcut
        have HB := Lib.hid hb
        have HD := Lib.hid hd
        clear hb hd
        obtain ⟨uo, huo⟩ : ∃ uo, uo = u6 := ⟨_, rfl⟩
        have HU := Lib.hid huo
        have hOO := OO.out
        rw [← huo] at hOO
        have OU := Lib.hid hOO
        clear huo hOO OO
        go_wp2_with fail
        go_loopw [6, 10] (fun v t wr2 => ∃ q : Nat, q ≤ n ∧ t = .int .i64 q ∧ Hid ((q ≤ j ∧ v = uo ∧ Below wc.heap.size wc wr2) ∨ (j < q ∧ OwnZ wr2 W0.heap.size v (P ++ [(j : Int)]) ∧ Below W0.heap.size W0 wr2 ∧ W0.heap.size ≤ wr2.heap.size ∧ H4 wr2 b8 0 s ∧ b8 < wr2.heap.size))) (fun _ t _ => n - (intOf t).toNat)
        case atStart => exact ⟨0, by omega, rfl, .inl ⟨by omega, HU.out.symm, Below.refl _ _⟩⟩
        case round =>
          obtain ⟨q, hq, rfl, HR⟩ := hrel
          obtain ⟨w2, rfl⟩ : ∃ w2 : World, w2 = wr := ⟨_, rfl⟩
          clear HU
          have hall : Below W0.heap.size W0 w2 ∧ H4 w2 b8 0 s ∧ b8 < w2.heap.size := by
            rcases HR.out with ⟨_, _, h⟩ | ⟨_, _, h2, _, h3, h4⟩
            · exact ⟨Below.trans BB.out ((HB.out.mono BB.out.size).trans (h.mono (Nat.le_trans BB.out.size HB.out.size))), HD.out.below h l8, Nat.lt_of_lt_of_le l8 h.size⟩
            · exact ⟨h2, h3, h4⟩
          obtain ⟨a1, ⟨d0, d1, d2, d3⟩, a3⟩ := hall
          have hg42 : g4 < w2.heap.size := Nat.lt_of_lt_of_le hg4 a1.size
          have A1 := Lib.hid a1
          clear a1
          by_cases hqn : q < n
          · obtain ⟨e, he⟩ : ∃ e, L[q]? = some e := ⟨L[q]'(by rw [← HN.out]; exact hqn), List.getElem?_eq_getElem _⟩
            obtain ⟨p0, p1, p2, p3⟩ := (ZL.out q e he).below A1.out hg4
            have qn : (q : Int) < (n : Int) := by omega
            have HE := Lib.hid he
            clear he
            by_cases hqj : q = j
            · have hes : e = s := by have h := HE.out; rw [hqj, HI1.out] at h; exact (Option.some.inj h).symm
              subst hes
              subst hqj
              have hE : Qt.eqb ⟨e.w, e.x, e.y, e.z⟩ ⟨e.w, e.x, e.y, e.z⟩ = true := Qt.eqb_iff.2 rfl
              have hA : u6 = uo ∧ Below wc.heap.size wc w2 := by
                rcases HR.out with ⟨_, h1, h⟩ | ⟨h, _⟩
                · exact ⟨h1, h⟩
                · omega
              obtain ⟨rfl, hw2⟩ := hA
              have o2 : OwnZ w2 W0.heap.size u6 P := (OU.out.below HB.out).below hw2
              have O2 := Lib.hid o2
              have HD2 : Hid (H4 w2 b8 0 e) := HD.out.below hw2 l8
              have hz2 : W0.heap.size ≤ w2.heap.size := A1.out.size
              clear o2 hw2 HR HI1 HI2 HE HJ
              go_wp2
              go_region
              go_wp2_with (first | (at_builtin; rw [drew_alloc']; go_must (refine append_z2 (w0 := W0) (base := W0.heap.size) (v := u6) (l := P) (m := w2.heap.size) ?_ ?_ ?_ (q : Int) hPl rfl (.tmp 40) (.tmp 42) rfl ?_ ?_ ?_ ?_); (focus (exact O2.out)); (focus (have hB := A1.out; (repeat (first | with_reducible assumption | with_reducible exact Below.refl _ _ | with_reducible refine Below.drewN ?_ _ | with_reducible refine Below.drew ?_ | with_reducible refine Below.alloc ?_ (by first | omega | (simp; done) | (simp; omega)) _ | with_reducible refine Below.setCell ?_ (by first | omega | (simp; done) | (simp; omega)) _ | with_reducible refine below_more _ _ ?_ (by first | omega | (simp; done) | (simp; omega)))))); (focus (first | exact hz2 | (simp; omega))); (focus rfl); (focus rfl); (focus (first | rfl | (simp; done))); intro v3 w3 hown3 hB3 hz3 hs3 hk3))
              go_roundw
              case rel => exact ⟨q + 1, by omega, by go_num, .inr ⟨by omega, hown3, hB3, hz3, HD2.out.heap (hk3 b8 a3 (OU.out.ne m8)), Nat.lt_of_lt_of_le a3 hs3⟩⟩
              case measure => simp [intOf]; omega
            · have hes : ¬ s = e := fun h => by
                have h2 := HE.out; rw [← h] at h2
                exact hqj (HI2.out q h2)
              have hE : Qt.eqb ⟨e.w, e.x, e.y, e.z⟩ ⟨s.w, s.x, s.y, s.z⟩ = false := by
                rw [← Bool.not_eq_true, Qt.eqb_iff]; exact fun h => hes h.symm
              clear hes HI1 HI2 HE
              go_wp2
              go_region
              go_wp2
              go_roundw
              case rel =>
                refine ⟨q + 1, by omega, by go_num, ?_⟩
                rcases HR.out with ⟨h1, h2, h⟩ | ⟨h1, h2, h3, h4, h5, h6⟩
                · exact .inl ⟨by omega, h2, by (repeat (first | with_reducible assumption | with_reducible exact Below.refl _ _ | with_reducible refine Below.drewN ?_ _ | with_reducible refine Below.drew ?_ | with_reducible refine Below.alloc ?_ (by first | omega | (simp; done) | (simp; omega)) _ | with_reducible refine Below.setCell ?_ (by first | omega | (simp; done) | (simp; omega)) _ | with_reducible refine below_more _ _ ?_ (by first | omega | (simp; done) | (simp; omega))))⟩
                · exact .inr ⟨by omega, h2.below (by (repeat (first | with_reducible assumption | with_reducible exact Below.refl _ _ | with_reducible refine Below.drewN ?_ _ | with_reducible refine Below.drew ?_ | with_reducible refine Below.alloc ?_ (by first | omega | (simp; done) | (simp; omega)) _ | with_reducible refine Below.setCell ?_ (by first | omega | (simp; done) | (simp; omega)) _ | with_reducible refine below_more _ _ ?_ (by first | omega | (simp; done) | (simp; omega))))), h3.trans (Below.mono (B := w2.heap.size) (by (repeat (first | with_reducible assumption | with_reducible exact Below.refl _ _ | with_reducible refine Below.drewN ?_ _ | with_reducible refine Below.drew ?_ | with_reducible refine Below.alloc ?_ (by first | omega | (simp; done) | (simp; omega)) _ | with_reducible refine Below.setCell ?_ (by first | omega | (simp; done) | (simp; omega)) _ | with_reducible refine below_more _ _ ?_ (by first | omega | (simp; done) | (simp; omega))))) h4), Nat.le_trans h4 (Below.size (B := w2.heap.size) (w := w2) (by (repeat (first | with_reducible assumption | with_reducible exact Below.refl _ _ | with_reducible refine Below.drewN ?_ _ | with_reducible refine Below.drew ?_ | with_reducible refine Below.alloc ?_ (by first | omega | (simp; done) | (simp; omega)) _ | with_reducible refine Below.setCell ?_ (by first | omega | (simp; done) | (simp; omega)) _ | with_reducible refine below_more _ _ ?_ (by first | omega | (simp; done) | (simp; omega)))))), h5.below (B := w2.heap.size) (by (repeat (first | with_reducible assumption | with_reducible exact Below.refl _ _ | with_reducible refine Below.drewN ?_ _ | with_reducible refine Below.drew ?_ | with_reducible refine Below.alloc ?_ (by first | omega | (simp; done) | (simp; omega)) _ | with_reducible refine Below.setCell ?_ (by first | omega | (simp; done) | (simp; omega)) _ | with_reducible refine below_more _ _ ?_ (by first | omega | (simp; done) | (simp; omega))))) h6, Nat.lt_of_lt_of_le h6 (Below.size (B := w2.heap.size) (w := w2) (by (repeat (first | with_reducible assumption | with_reducible exact Below.refl _ _ | with_reducible refine Below.drewN ?_ _ | with_reducible refine Below.drew ?_ | with_reducible refine Below.alloc ?_ (by first | omega | (simp; done) | (simp; omega)) _ | with_reducible refine Below.setCell ?_ (by first | omega | (simp; done) | (simp; omega)) _ | with_reducible refine below_more _ _ ?_ (by first | omega | (simp; done) | (simp; omega))))))⟩
              case measure => simp [intOf]; omega
          · obtain rfl : q = n := by omega
            have hf : OwnZ w2 W0.heap.size u6 (P ++ [(j : Int)]) ∧ W0.heap.size ≤ w2.heap.size := by
              rcases HR.out with ⟨h1, _⟩ | ⟨_, h2, _, h4, _⟩
              · omega
              · exact ⟨h2, h4⟩
            obtain ⟨hf, hz2⟩ := hf
            have HF := Lib.hid hf
            clear hf HR
            go_wp2
            go_roundw
            case rel =>
              refine ⟨k + 1, by omega, by go_num, ?_, A1.out, hz2⟩
              rw [HS.out]; exact HF.out
            case measure => simp [intOf]; omega
    · obtain rfl : k = n := by omega
      have hown' : OwnZ wo w.heap.size u6 (J.map fun (j : Nat) => (j : Int)) := by
        have h := hown.base (b' := w.heap.size) HB0.out.size
        rw [List.take_of_length_le (by rw [LJ.out, ← HN.out]; exact Nat.le_refl _)] at h; exact h
      have hB' : Below w.heap.size w wo := Below.trans HB0.out (hB.mono HB0.out.size)
      have HO := Lib.hid hown'
      clear hown hown'
      go_wp2
      go_ret
      exact ⟨_, rfl, HO.out, hB'⟩
end Go.Proofs.YthajaabgcbjfkaaGreat
