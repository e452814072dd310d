/- Contract: the steps of generators. -/
import Derived.Test.YthajaabgcbjfkaaDoorJ2
import Derived.BigQuiet
namespace Go.Proofs.YthajaabgcbjfkaaDoor
open Go.RowKit Go.BigFrame
attribute [local go_sem ↓] Go.wp_at_zero Go.wp_at_succ

theorem stepInfo : (Tryd.prog.info? 57).map (fun i => (i.zero, i.size, i.bytes)) = some (some (.agg #[.int .i64 0, .int .i64 0, .int .i64 0, .int .i64 0, .int .i64 0]), 5, 40) := by kernel_rfl
/-- The slice v of the call's own holds steps: each a letter and four coordinates. -/
def OwnS (w : World) (base : Nat) (v : Value) (l : List Qd) : Prop := w.ownsRow base 57 5 v l.length (flatD l)
theorem OwnS.nil (w : World) (base : Nat) : OwnS w base (.slice none 0 0) [] := ⟨by simp [flatD], .inl ⟨rfl, rfl⟩⟩
/-- append of two steps, which lie in a block that was just made. -/
theorem append_steps {w0 w : World} {base : Nat} {v : Value} {l : List Qd} (hown : OwnS w base v l) (hB : Below base w0 w) (hbase : base ≤ w.heap.size) (p q : Qd) (b : Nat) (hO : w.heap[b]? = some (.cells #[.int .i64 p.w, .int .i64 p.x, .int .i64 p.y, .int .i64 p.z, .int .i64 p.d, .int .i64 q.w, .int .i64 q.x, .int .i64 q.y, .int .i64 q.z, .int .i64 q.d] 57)) (hlen : l.length < 1000000)
    {ops : Array Oper} {rest : List Oper} {o : Oper} {a : Act} {Q : Exit → Act → World → Prop} (hgd : o.guard = none) (s x : Operand)
    (ho : o.op = .call { callee := .builtin .append, args := #[s, x], argTypes := #[51, 51] })
    (hs : a.eval s = v) (hx : a.eval x = .slice (some ⟨b, 0, none⟩) 2 2)
    (h : ∀ v' w', OwnS w' base v' (l ++ [p, q]) → Below base w0 w' → base ≤ w'.heap.size → w.heap.size ≤ w'.heap.size → (∀ b, b < w.heap.size → some b ≠ v.ownBlock → w'.heap[b]? = w.heap[b]?) → wpList Tryd.prog ops Q rest (a.put o.dst v') w') : wpList Tryd.prog ops Q (o :: rest) a w := by
  obtain ⟨i0, hi0, hz0, hz1, hz2⟩ := info_parts stepInfo
  refine wpList_append_own _ hgd s x 51 ho base 57 i0 _ 5 40 Tryd.underlying51 hi0 hz0 hz1 hz2 rfl (by omega) v l.length (flatD l) hs hown
    ⟨b, 0, none⟩ 2 2 (flatD [p, q]) hx rfl ?_ ?_ (by simp only [maxLen]; omega) (by omega) hbase ?_
  · intro j u hu
    have : (⟨b, 0, none⟩ : Addr).add j = ⟨b, j, none⟩ := by unfold Addr.add; split <;> simp_all
    rw [this, cell_of_row _ _ _ _ _ _ hO]
    simpa [flatD, encD] using hu
  · intro u hu
    unfold flatD at hu
    obtain ⟨c, _, hc⟩ := List.mem_flatMap.1 hu
    exact encD_one c u hc
  · intro v' w' h1 h2 _
    have hsz : w.heap.size ≤ w'.heap.size := h2.size
    refine h v' w' (by unfold OwnS; rw [flatD_append]; simpa using h1) (hB.grown h2 hbase ?_) (by omega) hsz ?_
    · intro k hk
      exact (hown.lt k hk).1
    · intro b hb hne
      exact h2.block b hb hne
/-- The error of a generator. -/
def gE (q : Qd) : Int := if q.serr = 0 then (if wB 1000 q.num.red then 0 else 8) else q.serr
/-- The two steps of a generator. -/
def stp (k : Nat) (q : Qd) : List Qd := [⟨(k : Int) + 1, q.num.red.w, q.num.red.x, q.num.red.y, q.num.red.z⟩, ⟨-(k : Int) - 1, (Qt.inv q.num.red).w, (Qt.inv q.num.red).x, (Qt.inv q.num.red).y, (Qt.inv q.num.red).z⟩]
def stps (l : List Qd) : Nat → List Qd
  | 0 => []
  | k + 1 => stps l k ++ (match l[k]? with | some q => stp k q | none => [])
theorem stps_len (l : List Qd) : ∀ k, k ≤ l.length → (stps l k).length = 2 * k
  | 0, _ => rfl
  | k + 1, h => by
    rw [stps, List.length_append, stps_len l k (by omega), List.getElem?_eq_getElem (show k < l.length by omega)]
    simp [stp]; omega
def SPost (w : World) (l : List Qd) (m : Nat) (E : Int) (e : Ending) (w' : World) : Prop :=
  ((m = l.length ∧ ∃ v, e = .returned (.tuple #[v, .int .i64 0]) ∧ OwnS w' w.heap.size v (stps l l.length)) ∨ (m < l.length ∧ e = .returned (.tuple #[.slice none 0 0, .int .i64 E]))) ∧ Below w.heap.size w w'
theorem OwnS.low {W W' : World} {base : Nat} {v : Value} {l : List Qd} (h : OwnS W base v l) (hb : Below W.heap.size W W') : OwnS W' base v l :=
  World.ownsRow.kept (row := none) h ⟨hb.os, hb.tape, hb.output, hb.size, fun k hk _ => hb.block k hk⟩ (by cases v.ownBlock <;> simp)
set_option maxRecDepth 10000 in
set_option maxHeartbeats 8000000 in
theorem steps_len (n : Nat) (hn : n < 1 ∨ 6 < n) (hn2 : n ≤ 9223372036854775807) (a : Option Addr) (cap : Nat) (w : World) :
    Calls Tryd.prog 16 #[.slice a n cap] w fun e w' => e = .returned (.tuple #[.slice none 0 0, .int .i64 2]) ∧ Below w.heap.size w w' := by
  rcases hn with hn | hn
  · obtain rfl : n = 0 := by omega
    go_enter Tryd.func16, Tryd.ntmps16
    go_wp2_with fail
    go_ret2
    exact ⟨rfl, by (repeat (first | with_reducible assumption | with_reducible exact Below.refl _ _ | with_reducible refine Below.drewN ?_ _ | with_reducible refine Below.drew ?_ | with_reducible refine Below.alloc ?_ (by first | omega | (simp; done) | (simp; omega)) _ | with_reducible refine Below.setCell ?_ (by first | omega | (simp; done) | (simp; omega)) _ | with_reducible refine below_more _ _ ?_ (by first | omega | (simp; done) | (simp; omega))))⟩
  · go_enter Tryd.func16, Tryd.ntmps16
    go_wp2_with fail
    go_ret2
    exact ⟨rfl, by (repeat (first | with_reducible assumption | with_reducible exact Below.refl _ _ | with_reducible refine Below.drewN ?_ _ | with_reducible refine Below.drew ?_ | with_reducible refine Below.alloc ?_ (by first | omega | (simp; done) | (simp; omega)) _ | with_reducible refine Below.setCell ?_ (by first | omega | (simp; done) | (simp; omega)) _ | with_reducible refine below_more _ _ ?_ (by first | omega | (simp; done) | (simp; omega))))⟩
set_option maxRecDepth 10000 in
set_option maxHeartbeats 16000000 in
theorem steps_walk (l : List Qd) (g cap m : Nat) (E : Int) (hl : 1 ≤ l.length ∧ l.length ≤ 6) (hm : m ≤ l.length) (hgood : ∀ (j : Nat) (q : Qd), j < m → l[j]? = some q → gE q = 0) (hbad : ∀ q, l[m]? = some q → gE q = E ∧ E ≠ 0) (w : World) (hg : g < w.heap.size) (hc : ∀ k q, l[k]? = some q → Q5 w g k q) :
    Calls Tryd.prog 16 #[.slice (some ⟨g, 0, none⟩) l.length cap] w (SPost w l m E) := by
  have HC : Hid _ := hc; have HGO : Hid _ := hgood; have HBA : Hid _ := hbad
  clear hc hgood hbad
  obtain ⟨n, hn⟩ : ∃ n, n = l.length := ⟨_, rfl⟩
  have HN := Lib.hid hn
  rw [← hn] at hl hm ⊢
  clear hn
  go_enter Tryd.func16, Tryd.ntmps16
  go_wp2_with fail
  go_loopw [4, 19] (fun v i wr => ∃ k : Nat, k ≤ m ∧ i = .int .i64 k ∧ Hid (OwnS wr w.heap.size v (stps l k) ∧ Below w.heap.size w wr)) (fun _ i _ => n - (intOf i).toNat)
  case atStart => exact ⟨0, by omega, rfl, OwnS.nil _ _, Below.refl _ _⟩
  case round =>
    obtain ⟨k, hk, rfl, HR⟩ := hrel
    obtain ⟨wo, rfl⟩ : ∃ wo : World, wo = wr := ⟨_, rfl⟩
    obtain ⟨o1, o2⟩ := HR.out
    have hwo := o2.size
    have O1 := Lib.hid o1; have O2 := Lib.hid o2
    clear o1 HR
    by_cases hkn : k < n
    · obtain ⟨q, hq⟩ : ∃ q, l[k]? = some q := ⟨l[k]'(by rw [← HN.out]; exact hkn), List.getElem?_eq_getElem _⟩
      obtain ⟨c0, c1, c2, c3, c4⟩ := (HC.out k q hq).below o2 hg
      have hgo : g < wo.heap.size := Nat.lt_of_lt_of_le hg hwo
      have kn : (k : Int) < (n : Int) := by omega
      have HQ := Lib.hid hq
      clear hq o2
      by_cases hkm : k = m
      · subst hkm
        obtain ⟨e1, e2⟩ := HBA.out q HQ.out
        clear HC HGO HBA
        by_cases hs : q.serr = 0
        · have TU := Lib.hid (turn_ok q hs)
          have hw : wB 1000 q.num.red = false := by
            rw [← Bool.not_eq_true]; intro hw
            unfold gE at e1
            rw [if_pos hs, if_pos hw] at e1
            exact e2 e1.symm
          have hE : E = 8 := by unfold gE at e1; rw [if_pos hs, hw] at e1; exact e1.symm
          subst hE
          have hI := serr_InR hs
          have WI := Lib.hid (qwithin_any 1000 q.num.red hI)
          rw [hw] at WI
          clear e1 e2 hs hI hw
          go_wp2_with (first | (go_at_call 38; with_reducible refine (TU.out _).mono ?_; rintro e w1 ⟨rfl, hb1⟩; obtain ⟨g1, rfl⟩ := more_of_below hb1; clear hb1) | (go_at_call 20; with_reducible refine (WI.out _).mono ?_; rintro e w2 ⟨rfl, hb2⟩; obtain ⟨g2, rfl⟩ := more_of_below hb2; clear hb2))
          have hB := O2.out
          refine bodyPost_ret (v := .tuple #[.slice none 0 0, .int .i64 8]) (by simp [results, Tryd.results16, go_sem]) rfl ⟨.inr ⟨by rw [← HN.out]; exact hkn, rfl⟩, by (repeat (first | with_reducible assumption | with_reducible exact Below.refl _ _ | with_reducible refine Below.drewN ?_ _ | with_reducible refine Below.drew ?_ | with_reducible refine Below.alloc ?_ (by first | omega | (simp; done) | (simp; omega)) _ | with_reducible refine Below.setCell ?_ (by first | omega | (simp; done) | (simp; omega)) _ | with_reducible refine below_more _ _ ?_ (by first | omega | (simp; done) | (simp; omega))))⟩
        · have TU := Lib.hid (turn_err q hs)
          have hE : E = q.serr := by unfold gE at e1; rw [if_neg hs] at e1; exact e1.symm
          subst hE
          have e3 : (q.serr != 0) = true := by simpa using hs
          clear e1 e2 hs
          go_wp2_with (first | (go_at_call 38; with_reducible refine (TU.out _).mono ?_; rintro e w1 ⟨rfl, hb1⟩; obtain ⟨g1, rfl⟩ := more_of_below hb1; clear hb1))
          have hB := O2.out
          refine bodyPost_ret (v := .tuple #[.slice none 0 0, .int .i64 q.serr]) (by simp [results, Tryd.results16, go_sem]) rfl ⟨.inr ⟨by rw [← HN.out]; exact hkn, rfl⟩, by (repeat (first | with_reducible assumption | with_reducible exact Below.refl _ _ | with_reducible refine Below.drewN ?_ _ | with_reducible refine Below.drew ?_ | with_reducible refine Below.alloc ?_ (by first | omega | (simp; done) | (simp; omega)) _ | with_reducible refine Below.setCell ?_ (by first | omega | (simp; done) | (simp; omega)) _ | with_reducible refine below_more _ _ ?_ (by first | omega | (simp; done) | (simp; omega))))⟩
      · have hg0 := HGO.out k q (by omega) HQ.out
        have hs : q.serr = 0 := by
          apply Decidable.byContradiction; intro hs
          unfold gE at hg0
          rw [if_neg hs] at hg0
          exact hs hg0
        have hw : wB 1000 q.num.red = true := by
          rw [← Bool.not_eq_false]; intro hw
          unfold gE at hg0
          rw [if_pos hs, hw] at hg0
          exact absurd hg0 (by decide)
        have TU := Lib.hid (turn_ok q hs)
        have hI := serr_InR hs
        have WI := Lib.hid (qwithin_any 1000 q.num.red hI)
        rw [hw] at WI
        have CO := Lib.hid (fun w => conj_in q.num.red w hI)
        have RE := Lib.hid (reduced_in q.num.red.conj (conj_InR hI) (serr_g4c hs))
        have hsn : stps l (k + 1) = stps l k ++ stp k q := by rw [stps, HQ.out]
        have HS := Lib.hid hsn
        have hlen : (stps l k).length < 1000000 := by rw [stps_len l k (by rw [← HN.out]; omega)]; omega
        unfold stp at HS
        have er : Qt.inv q.num.red = q.num.red.conj.red := rfl
        rw [← er] at RE
        generalize Qt.inv q.num.red = r at *
        generalize q.num.red = t at *
        have m1 : IntKind.i64.wrap ((k : Int) + 1) = (k : Int) + 1 := IntWalk.i64_in _ (by omega)
        have m2 : IntKind.i64.wrap (-(k : Int)) = -(k : Int) := IntWalk.i64_in _ (by omega)
        have m3 : IntKind.i64.wrap (-(k : Int) - 1) = -(k : Int) - 1 := IntWalk.i64_in _ (by omega)
        clear hg0 hs hw hI hsn er HC HGO HBA
        go_wp2_with (first | (go_at_call 38; with_reducible refine (TU.out _).mono ?_; rintro e w1 ⟨rfl, hb1⟩; obtain ⟨g1, rfl⟩ := more_of_below hb1; clear hb1) | (go_at_call 20; with_reducible refine (WI.out _).mono ?_; rintro e w2 ⟨rfl, hb2⟩; obtain ⟨g2, rfl⟩ := more_of_below hb2; clear hb2))
        (apply Own2.wp_region_own2 13 [.inl _, .inl _, .inl _, .inl _, .inl _, .inl _, .inl _, .inl _, .inl _, .inl _, .inl _, .inl _, .inr (.cells #[.int .i64 ((k : Int) + 1), .int .i64 t.w, .int .i64 t.x, .int .i64 t.y, .int .i64 t.z, .int .i64 (-(k : Int) - 1), .int .i64 r.w, .int .i64 r.x, .int .i64 r.y, .int .i64 r.z] 57, fun b => .slice (some ⟨b, 0, none⟩) 2 2)] (by kernel_rfl) (by kernel_rfl); simp only [List.take_succ_cons, List.take_zero, List.drop_succ_cons, List.drop_zero]; (refine Own2.lexM_val rfl (fun K hK => ?_); go_simp; (try go_bits); refine ⟨fun w' hw' hcb' => ?_, hK _ ?_⟩; (focus (first | with_reducible exact rfl | (go_at_call 40; (with_reducible exact CO.out _)) | (go_at_call 17; (with_reducible exact RE.out _)) | (obtain ⟨gx, rfl⟩ := more_of_below (Ext.below hw'); go_simp; exact rfl))); clear hK K); (refine Own2.lexM_val rfl (fun K hK => ?_); go_simp; (try go_bits); refine ⟨fun w' hw' hcb' => ?_, hK _ ?_⟩; (focus (first | with_reducible exact rfl | (go_at_call 40; (with_reducible exact CO.out _)) | (go_at_call 17; (with_reducible exact RE.out _)) | (obtain ⟨gx, rfl⟩ := more_of_below (Ext.below hw'); go_simp; exact rfl))); clear hK K); (refine Own2.lexM_val rfl (fun K hK => ?_); go_simp; (try go_bits); refine ⟨fun w' hw' hcb' => ?_, hK _ ?_⟩; (focus (first | with_reducible exact rfl | (go_at_call 40; (with_reducible exact CO.out _)) | (go_at_call 17; (with_reducible exact RE.out _)) | (obtain ⟨gx, rfl⟩ := more_of_below (Ext.below hw'); go_simp; exact rfl))); clear hK K); (refine Own2.lexM_val rfl (fun K hK => ?_); go_simp; (try go_bits); refine ⟨fun w' hw' hcb' => ?_, hK _ ?_⟩; (focus (first | with_reducible exact rfl | (go_at_call 40; (with_reducible exact CO.out _)) | (go_at_call 17; (with_reducible exact RE.out _)) | (obtain ⟨gx, rfl⟩ := more_of_below (Ext.below hw'); go_simp; exact rfl))); clear hK K); (refine Own2.lexM_val rfl (fun K hK => ?_); go_simp; (try go_bits); refine ⟨fun w' hw' hcb' => ?_, hK _ ?_⟩; (focus (first | with_reducible exact rfl | (go_at_call 40; (with_reducible exact CO.out _)) | (go_at_call 17; (with_reducible exact RE.out _)) | (obtain ⟨gx, rfl⟩ := more_of_below (Ext.below hw'); go_simp; exact rfl))); clear hK K); (refine Own2.lexM_val rfl (fun K hK => ?_); go_simp; (try go_bits); refine ⟨fun w' hw' hcb' => ?_, hK _ ?_⟩; (focus (first | with_reducible exact rfl | (go_at_call 40; (with_reducible exact CO.out _)) | (go_at_call 17; (with_reducible exact RE.out _)) | (obtain ⟨gx, rfl⟩ := more_of_below (Ext.below hw'); go_simp; exact rfl))); clear hK K); (refine Own2.lexM_val rfl (fun K hK => ?_); go_simp; (try go_bits); refine ⟨fun w' hw' hcb' => ?_, hK _ ?_⟩; (focus (first | with_reducible exact rfl | (go_at_call 40; (with_reducible exact CO.out _)) | (go_at_call 17; (with_reducible exact RE.out _)) | (obtain ⟨gx, rfl⟩ := more_of_below (Ext.below hw'); go_simp; exact rfl))); clear hK K); (refine Own2.lexM_val rfl (fun K hK => ?_); go_simp; (try go_bits); refine ⟨fun w' hw' hcb' => ?_, hK _ ?_⟩; (focus (first | with_reducible exact rfl | (go_at_call 40; (with_reducible exact CO.out _)) | (go_at_call 17; (with_reducible exact RE.out _)) | (obtain ⟨gx, rfl⟩ := more_of_below (Ext.below hw'); go_simp; exact rfl))); clear hK K); (refine Own2.lexM_val rfl (fun K hK => ?_); go_simp; (try go_bits); refine ⟨fun w' hw' hcb' => ?_, hK _ ?_⟩; (focus (first | with_reducible exact rfl | (go_at_call 40; (with_reducible exact CO.out _)) | (go_at_call 17; (with_reducible exact RE.out _)) | (obtain ⟨gx, rfl⟩ := more_of_below (Ext.below hw'); go_simp; exact rfl))); clear hK K); (refine Own2.lexM_val rfl (fun K hK => ?_); go_simp; (try go_bits); refine ⟨fun w' hw' hcb' => ?_, hK _ ?_⟩; (focus (first | with_reducible exact rfl | (go_at_call 40; (with_reducible exact CO.out _)) | (go_at_call 17; (with_reducible exact RE.out _)) | (obtain ⟨gx, rfl⟩ := more_of_below (Ext.below hw'); go_simp; exact rfl))); clear hK K); (refine Own2.lexM_val rfl (fun K hK => ?_); go_simp; (try go_bits); refine ⟨fun w' hw' hcb' => ?_, hK _ ?_⟩; (focus (first | with_reducible exact rfl | (go_at_call 40; (with_reducible exact CO.out _)) | (go_at_call 17; (with_reducible exact RE.out _)) | (obtain ⟨gx, rfl⟩ := more_of_below (Ext.below hw'); go_simp; exact rfl))); clear hK K); (refine Own2.lexM_val rfl (fun K hK => ?_); go_simp; (try go_bits); refine ⟨fun w' hw' hcb' => ?_, hK _ ?_⟩; (focus (first | with_reducible exact rfl | (go_at_call 40; (with_reducible exact CO.out _)) | (go_at_call 17; (with_reducible exact RE.out _)) | (obtain ⟨gx, rfl⟩ := more_of_below (Ext.below hw'); go_simp; exact rfl))); clear hK K); (refine Own2.lexM_mem rfl ?_ (fun w => by first | rfl | (go_simp; rfl) | (go_simp; done)) (fun b31 hb31 hn31 => ?_); (focus (first | rfl | (go_simp <;> rfl) | decide)); simp only [Act.put, List.setIfInBounds_toArray, List.set_cons_succ, List.set_cons_zero]); intro w3 hw3; have hB3 := hw3.1; have hO31 := (hw3.2 _ b31 _ (Or.inl ⟨rfl, rfl, rfl⟩)).2; clear hw3)
        have hW3 : Below wo.heap.size wo w3 := by
          refine Below.trans ?_ (hB3.mono ?_)
          · (repeat (first | with_reducible assumption | with_reducible exact Below.refl _ _ | with_reducible refine Below.drewN ?_ _ | with_reducible refine Below.drew ?_ | with_reducible refine Below.alloc ?_ (by first | omega | (simp; done) | (simp; omega)) _ | with_reducible refine Below.setCell ?_ (by first | omega | (simp; done) | (simp; omega)) _ | with_reducible refine below_more _ _ ?_ (by first | omega | (simp; done) | (simp; omega))))
          · first | omega | (simp; omega) | (simp only [size_more_eq, World.size_alloc]; omega)
        have hB0 : Below w.heap.size w w3 := Below.trans O2.out (hW3.mono hwo)
        clear hB3 hb31
        go_wp2_with (first | (at_builtin; go_must (refine append_steps (w0 := w) (base := w.heap.size) (v := u4) (l := stps l k) (O1.out.low hW3) hB0 hB0.size ⟨(k : Int) + 1, t.w, t.x, t.y, t.z⟩ ⟨-(k : Int) - 1, r.w, r.x, r.y, r.z⟩ b31 hO31 hlen rfl (.tmp 35) (.tmp 47) rfl (by rfl) (by rfl) ?_); intro v4 w4 hown4 hB4 hz4 hs4 hk4; have HOW := Lib.hid hown4; clear hown4 hk4))
        go_roundw
        case rel => exact ⟨k + 1, by omega, by go_num, by rw [HS.out]; exact HOW.out, hB4⟩
        case measure => simp [intOf]; omega
    · obtain rfl : k = n := by omega
      clear HC HGO HBA o2
      have hkm : k = m := by omega
      go_wp2_with fail
      refine bodyPost_ret (v := .tuple #[u4, .int .i64 0]) (by simp [results, Tryd.results16, go_sem]) rfl ⟨.inl ⟨by rw [← hkm, HN.out], u4, rfl, by rw [← HN.out]; exact O1.out⟩, O2.out⟩
end Go.Proofs.YthajaabgcbjfkaaDoor
