/- Contract: the reference's Factor. -/
import Derived.Test.YthajaabgcbjfkaaX4
import Derived.Test.YthajaabgcbjfkaaB3
namespace Go.Proofs.Ythajaabgcbjfkaa
open Go.RowKit Go.BigFrame
attribute [local go_sem ↓] Go.wp_at_zero Go.wp_at_succ

theorem OwnR.setCell {W : World} {base : Nat} {v : Value} {l : List Qt} (h : OwnR W base v l) {p : Addr} (hp : p.block < base) (u : Value) : OwnR (W.setCell p u) base v l := ownsRow_setCell_below h hp u
/-- append of one element: besides, the blocks that are not the row's stay. -/
theorem append_rhur4 {w0 w : World} {base : Nat} {v : Value} {l : List Qt} (hown : OwnR w base v l) (hB : Below base w0 w) (hbase : base ≤ w.heap.size) (q : Qt) (hlen : l.length < 1000000)
    {ops : Array Oper} {rest : List Oper} {o : Oper} {a : Act} {Q : Exit → Act → World → Prop} (hgd : o.guard = none) (s x : Operand)
    (ho : o.op = .call { callee := .builtin .append, args := #[s, x], argTypes := #[47, 47] })
    (hs : a.eval s = v) {m : Nat} (hx : a.eval x = .slice (some ⟨m, 0, none⟩) 1 1) (hm : m = w.heap.size)
    (h : ∀ v' w', OwnR w' base v' (l ++ [q]) → Below base w0 w' → base ≤ w'.heap.size → w.heap.size ≤ w'.heap.size → (∀ b, b < w.heap.size → some b ≠ v.ownBlock → w'.heap[b]? = w.heap[b]?) → wpList Try.prog ops Q rest (a.put o.dst v') w') : wpList Try.prog ops Q (o :: rest) a (w.alloc (.cells #[.int .i64 q.w, .int .i64 q.x, .int .i64 q.y, .int .i64 q.z] 32)) := by
  subst hm
  obtain ⟨i0, hi0, hz0, hz1, hz2⟩ := info_parts rhurInfo
  refine wpList_append_own _ hgd s x 47 ho base 32 i0 _ 4 32 Try.underlying47 hi0 hz0 hz1 hz2 rfl (by omega) v l.length (flatQ l) hs (hown.alloc _)
    ⟨w.heap.size, 0, none⟩ 1 1 (encQ q) hx rfl ?_ (encQ_one q) (by simp only [maxLen]; omega) (by omega) (by simp; omega) ?_
  · intro j u hu
    have : (⟨w.heap.size, 0, none⟩ : Addr).add j = ⟨w.heap.size, j, none⟩ := by unfold Addr.add; split <;> simp_all
    rw [this, cell_of_row _ _ _ _ _ _ (heap_alloc_new w _)]
    simpa [encQ] using hu
  · intro v' w' h1 h2 _
    have hsz : w.heap.size ≤ w'.heap.size := Nat.le_trans (by simp) h2.size
    refine h v' w' (by unfold OwnR; rw [flatQ_append]; simpa [flatQ] using h1) ((hB.alloc hbase _).grown h2 (by simp; omega) ?_) (by omega) hsz ?_
    · intro k hk
      exact (hown.lt k hk).1
    · intro b hb hne
      rw [h2.block b (by simp; omega) hne, Below.heap_alloc _ _ _ hb]

set_option maxRecDepth 10000 in
set_option maxHeartbeats 8000000 in
theorem rfac_walk (X : Qt) (l : List Int) (a : Addr) (cap0 : Nat) (n : Nat) (hn : l.length = n + 1) (hn6 : n ≤ 5) (H D M : Nat → Qt) (hH : H 0 = X)
    (cnum : ∀ (k : Nat) (q : Int), k < n → l[k]? = some q → ∀ w, Calls Try.prog 84 #[.int .i64 q] w fun e w' => e = .returned (.agg #[.int .i64 (M k).w, .int .i64 (M k).x, .int .i64 (M k).y, .int .i64 (M k).z]) ∧ Below w.heap.size w w')
    (ccom : ∀ k : Nat, k < n → ∀ w, Calls Try.prog 31 #[.agg #[.int .i64 (H k).w, .int .i64 (H k).x, .int .i64 (H k).y, .int .i64 (H k).z], .agg #[.int .i64 (M k).w, .int .i64 (M k).x, .int .i64 (M k).y, .int .i64 (M k).z]] w fun e w' => e = .returned (.agg #[.int .i64 (D k).w, .int .i64 (D k).x, .int .i64 (D k).y, .int .i64 (D k).z]) ∧ Below w.heap.size w w')
    (cbef : ∀ k : Nat, k < n → ∀ w, Calls Try.prog 32 #[.agg #[.int .i64 (H k).w, .int .i64 (H k).x, .int .i64 (H k).y, .int .i64 (H k).z], .agg #[.int .i64 (D k).w, .int .i64 (D k).x, .int .i64 (D k).y, .int .i64 (D k).z]] w fun e w' => e = .returned (.tuple #[.agg #[.int .i64 (H (k + 1)).w, .int .i64 (H (k + 1)).x, .int .i64 (H (k + 1)).y, .int .i64 (H (k + 1)).z], .bool true]) ∧ Below w.heap.size w w') (w : World) (hz : ZAt w a l) :
    Calls Try.prog 61 #[.agg #[.int .i64 X.w, .int .i64 X.x, .int .i64 X.y, .int .i64 X.z], .slice (some a) (n + 1) cap0] w fun e w' => ∃ v, e = .returned v ∧ OwnR w' w.heap.size v ((List.range n).map D ++ [H n]) ∧ Below w.heap.size w w' := by
  have CNUM : Hid _ := cnum; have CCOM : Hid _ := ccom; have CBEF : Hid _ := cbef; have HZ := Lib.hid hz; have HN := Lib.hid hn
  clear cnum ccom cbef hz hn
  go_enter Try.func61, Try.ntmps61
  go_wp2_with fail
  have HR0 : Hid (OwnR (w.alloc (.cells #[.int .i64 X.w, .int .i64 X.x, .int .i64 X.y, .int .i64 X.z] 32)) (w.heap.size + 1) (.slice none 0 0) ((List.range 0).map D) ∧ Below w.heap.size w (w.alloc (.cells #[.int .i64 X.w, .int .i64 X.x, .int .i64 X.y, .int .i64 X.z] 32)) ∧ w.heap.size + 1 ≤ (w.alloc (.cells #[.int .i64 X.w, .int .i64 X.x, .int .i64 X.y, .int .i64 X.z] 32)).heap.size ∧ H4 (w.alloc (.cells #[.int .i64 X.w, .int .i64 X.x, .int .i64 X.y, .int .i64 X.z] 32)) w.heap.size 0 (H 0) ∧ (∀ o, o < 4 → (w.alloc (.cells #[.int .i64 X.w, .int .i64 X.x, .int .i64 X.y, .int .i64 X.z] 32)).frozen? ⟨w.heap.size, o, none⟩ = false)) := by
    rw [hH]
    refine ⟨OwnR.nil _ _, by (repeat (first | with_reducible assumption | with_reducible exact Below.refl _ _ | with_reducible refine Below.drewN ?_ _ | with_reducible refine Below.drew ?_ | with_reducible refine Below.alloc ?_ (by first | omega | (simp; done) | (simp; omega)) _ | with_reducible refine Below.setCell ?_ (by first | omega | (simp; done) | (simp; omega)) _ | with_reducible refine below_more _ _ ?_ (by first | omega | (simp; done) | (simp; omega)))), by simp, ⟨?_, ?_, ?_, ?_⟩, fun o ho => ?_⟩
    · go_simp
    · go_simp
    · go_simp
    · go_simp
    · match o, ho with
      | 0, _ => go_simp
      | 1, _ => go_simp
      | 2, _ => go_simp
      | 3, _ => go_simp
  go_loopw [5, 6] (fun v i wr => ∃ k : Nat, k ≤ n ∧ i = .int .i64 k ∧ Hid (OwnR wr (w.heap.size + 1) v ((List.range k).map D) ∧ Below w.heap.size w wr ∧ w.heap.size + 1 ≤ wr.heap.size ∧ H4 wr w.heap.size 0 (H k) ∧ (∀ o, o < 4 → wr.frozen? ⟨w.heap.size, o, none⟩ = false))) (fun _ i _ => n - (intOf i).toNat)
  case atStart => exact ⟨0, by omega, rfl, HR0.out⟩
  case round =>
    clear HR0
    obtain ⟨k, hk, rfl, HR⟩ := hrel
    obtain ⟨wo, rfl⟩ : ∃ wo : World, wo = wr := ⟨_, rfl⟩
    obtain ⟨o1, o2, o3, ⟨h0, h1, h2, h3⟩, f⟩ := HR.out
    have hzk := HZ.out.below o2 (Nat.le_refl _)
    have f0 := f 0 (by omega); have f1 := f 1 (by omega); have f2 := f 2 (by omega); have f3 := f 3 (by omega)
    have l6 : w.heap.size < wo.heap.size := by omega
    have O1 := Lib.hid o1; have O2 := Lib.hid o2
    clear o1 o2 f HR
    generalize hb6 : w.heap.size = b6 at *
    have HB6 := Lib.hid hb6
    clear hb6
    by_cases hkn : k < n
    · obtain ⟨q, hq⟩ : ∃ q, l[k]? = some q := ⟨l[k]'(by have := HN.out; omega), List.getElem?_eq_getElem _⟩
      have cq := hzk k q hq
      have cq2 : ∀ g, (more wo g).cell? (a.add k) = some (.int .i64 q) := fun g => (hzk.mor g) k q hq
      have kn : (k : Int) < (n : Int) := by omega
      have kn1 : (k : Int) + 1 < (n : Int) + 1 := by omega
      have kn2 : (k : Int) < (n : Int) + 1 := by omega
      have NU := Lib.hid (CNUM.out k q hkn hq)
      have CO := Lib.hid (CCOM.out k hkn)
      have BE := Lib.hid (CBEF.out k hkn)
      clear hq hzk CNUM CCOM CBEF
      go_wp2_with fail
      (apply Own2.wp_region_own2 8 [.inl _, .inl _, .inl _, .inl _, .inl _, .inl _, .inl _, .inr (.cells #[.int .i64 0, .int .i64 0, .int .i64 0, .int .i64 0] 32, fun b => .pointer (some ⟨b, 0, none⟩))] (by kernel_rfl) (by kernel_rfl); simp only [List.take_succ_cons, List.take_zero, List.drop_succ_cons, List.drop_zero]; (refine Own2.lexM_val rfl (fun K hK => ?_); go_simp; (try go_bits); refine ⟨fun w' hw' hcb' => ?_, hK _ ?_⟩; (focus (first | with_reducible exact rfl | (go_at_call 84; (with_reducible exact NU.out _)) | (go_at_call 31; (with_reducible exact CO.out _)) | (obtain ⟨gx, rfl⟩ := more_of_below (Ext.below hw'); go_simp; exact rfl))); clear hK K); (refine Own2.lexM_val rfl (fun K hK => ?_); go_simp; (try go_bits); refine ⟨fun w' hw' hcb' => ?_, hK _ ?_⟩; (focus (first | with_reducible exact rfl | (go_at_call 84; (with_reducible exact NU.out _)) | (go_at_call 31; (with_reducible exact CO.out _)) | (obtain ⟨gx, rfl⟩ := more_of_below (Ext.below hw'); go_simp; exact rfl))); clear hK K); (refine Own2.lexM_val rfl (fun K hK => ?_); go_simp; (try go_bits); refine ⟨fun w' hw' hcb' => ?_, hK _ ?_⟩; (focus (first | with_reducible exact rfl | (go_at_call 84; (with_reducible exact NU.out _)) | (go_at_call 31; (with_reducible exact CO.out _)) | (obtain ⟨gx, rfl⟩ := more_of_below (Ext.below hw'); go_simp; exact rfl))); clear hK K); (refine Own2.lexM_val rfl (fun K hK => ?_); go_simp; (try go_bits); refine ⟨fun w' hw' hcb' => ?_, hK _ ?_⟩; (focus (first | with_reducible exact rfl | (go_at_call 84; (with_reducible exact NU.out _)) | (go_at_call 31; (with_reducible exact CO.out _)) | (obtain ⟨gx, rfl⟩ := more_of_below (Ext.below hw'); go_simp; exact rfl))); clear hK K); (refine Own2.lexM_val rfl (fun K hK => ?_); go_simp; (try go_bits); refine ⟨fun w' hw' hcb' => ?_, hK _ ?_⟩; (focus (first | with_reducible exact rfl | (go_at_call 84; (with_reducible exact NU.out _)) | (go_at_call 31; (with_reducible exact CO.out _)) | (obtain ⟨gx, rfl⟩ := more_of_below (Ext.below hw'); go_simp; exact rfl))); clear hK K); (refine Own2.lexM_val rfl (fun K hK => ?_); go_simp; (try go_bits); refine ⟨fun w' hw' hcb' => ?_, hK _ ?_⟩; (focus (first | with_reducible exact rfl | (go_at_call 84; (with_reducible exact NU.out _)) | (go_at_call 31; (with_reducible exact CO.out _)) | (obtain ⟨gx, rfl⟩ := more_of_below (Ext.below hw'); go_simp; exact rfl))); clear hK K); (refine Own2.lexM_val rfl (fun K hK => ?_); go_simp; (try go_bits); refine ⟨fun w' hw' hcb' => ?_, hK _ ?_⟩; (focus (first | with_reducible exact rfl | (go_at_call 84; (with_reducible exact NU.out _)) | (go_at_call 31; (with_reducible exact CO.out _)) | (obtain ⟨gx, rfl⟩ := more_of_below (Ext.below hw'); go_simp; exact rfl))); clear hK K); (refine Own2.lexM_mem rfl ?_ (fun w => by first | rfl | (go_simp; rfl) | (go_simp; done)) (fun b21 hb21 hn21 => ?_); (focus (first | rfl | (go_simp <;> rfl) | decide)); simp only [Act.put, List.setIfInBounds_toArray, List.set_cons_succ, List.set_cons_zero]); intro w2 hw2; have hB2 := hw2.1; have hO21 := (hw2.2 _ b21 _ (Or.inl ⟨rfl, rfl, rfl⟩)).2; clear hw2; obtain ⟨g2, g2', hE2, rfl⟩ := split_block hB2 hb21 hO21; clear hB2 hb21 hO21; (try clear hn21); (repeat (first | simp only [size_more_eq] at hE2 | simp only [World.size_alloc] at hE2)); subst hE2)
      have hlen : ((List.range k).map D).length < 1000000 := by simp; omega
      go_wp2_with (first | (at_builtin; go_must (refine append_rhur4 (w0 := wo) (base := b6 + 1) (v := u5) (l := (List.range k).map D) ?_ ?_ ?_ (D k) hlen rfl (.tmp 22) (.tmp 24) rfl (by rfl) (by rfl) (by simp) ?_); (focus (exact ((O1.out.mor _).alloc _).mor _)); (focus ((repeat (first | with_reducible assumption | with_reducible exact Below.refl _ _ | with_reducible refine Below.drewN ?_ _ | with_reducible refine Below.drew ?_ | with_reducible refine Below.alloc ?_ (by first | omega | (simp; done) | (simp; omega)) _ | with_reducible refine Below.setCell ?_ (by first | omega | (simp; done) | (simp; omega)) _ | with_reducible refine below_more _ _ ?_ (by first | omega | (simp; done) | (simp; omega)))))); (focus (simp; omega)); intro v2 w2 hown2 hB2 hz2 hs2 hk2; have HOW := Lib.hid hown2; have HBW := Lib.hid hB2; have hne : some (wo.heap.size + g2.2.size) ≠ u5.ownBlock := (fun e => by have := (World.ownsRow.lt O1.out _ e.symm).2; omega); have e0 := (hB2.cell (p := ⟨b6, 0, none⟩) (by simp)).trans h0; have e1 := (hB2.cell (p := ⟨b6, 1, none⟩) (by simp)).trans h1; have e2 := (hB2.cell (p := ⟨b6, 2, none⟩) (by simp)).trans h2; have e3 := (hB2.cell (p := ⟨b6, 3, none⟩) (by simp)).trans h3; have z0 := (hB2.frozen (p := ⟨b6, 0, none⟩) (by simp)).trans f0; have z1 := (hB2.frozen (p := ⟨b6, 1, none⟩) (by simp)).trans f1; have z2 := (hB2.frozen (p := ⟨b6, 2, none⟩) (by simp)).trans f2; have z3 := (hB2.frozen (p := ⟨b6, 3, none⟩) (by simp)).trans f3; have bk := hk2 (wo.heap.size + g2.2.size) (by simp; omega) hne; have d0 : w2.cell? ⟨wo.heap.size + g2.2.size, 0, none⟩ = some (.int .i64 ((D k).w)) := (World.cell?_of_block bk).trans (by go_simp); have d1 : w2.cell? ⟨wo.heap.size + g2.2.size, 1, none⟩ = some (.int .i64 ((D k).x)) := (World.cell?_of_block bk).trans (by go_simp); have d2 : w2.cell? ⟨wo.heap.size + g2.2.size, 2, none⟩ = some (.int .i64 ((D k).y)) := (World.cell?_of_block bk).trans (by go_simp); have d3 : w2.cell? ⟨wo.heap.size + g2.2.size, 3, none⟩ = some (.int .i64 ((D k).z)) := (World.cell?_of_block bk).trans (by go_simp); have l62 : b6 < w2.heap.size := Nat.lt_of_lt_of_le (by omega) hz2; have l11 : wo.heap.size + g2.2.size < w2.heap.size := Nat.lt_of_lt_of_le (by simp; omega) hs2; clear hown2 hB2 hk2 bk hne hs2 h0 h1 h2 h3 f0 f1 f2 f3) | (go_at_call 32; with_reducible refine (BE.out _).mono ?_; rintro e w5 ⟨rfl, hb5⟩; obtain ⟨g5, rfl⟩ := more_of_below hb5; clear hb5))
      go_roundw
      case rel =>
        have hB3 : Below b6 w w2 := Below.trans O2.out (HBW.out.mono (by omega))
        refine ⟨k + 1, by omega, by go_num, ?_, ?_, ?_, ⟨?_, ?_, ?_, ?_⟩, ?_⟩
        · have hl : (List.range (k + 1)).map D = (List.range k).map D ++ [D k] := by rw [List.range_succ, List.map_append]; rfl
          rw [hl]
          with_reducible refine OwnR.mor ?_ _
          iterate 4 (with_reducible refine OwnR.setCell ?_ (Nat.lt_succ_self b6) _)
          exact HOW.out
        · (repeat (first | with_reducible assumption | with_reducible exact Below.refl _ _ | with_reducible refine Below.drewN ?_ _ | with_reducible refine Below.drew ?_ | with_reducible refine Below.alloc ?_ (by first | omega | (simp; done) | (simp; omega)) _ | with_reducible refine Below.setCell ?_ (by first | omega | (simp; done) | (simp; omega)) _ | with_reducible refine below_more _ _ ?_ (by first | omega | (simp; done) | (simp; omega))))
        · first | (simp; omega) | (simp only [size_more_eq, World.size_setCell]; omega)
        · go_simp
        · go_simp
        · go_simp
        · go_simp
        · intro o ho
          match o, ho with
          | 0, _ => go_simp
          | 1, _ => go_simp
          | 2, _ => go_simp
          | 3, _ => go_simp
      case measure => simp [intOf]; omega
    · obtain rfl : k = n := by omega
      have hlen : ((List.range k).map D).length < 1000000 := by simp; omega
      clear CNUM CCOM CBEF hzk
      go_wp2_with (first | (at_builtin; go_must (refine append_rhur4 (w0 := wo) (base := b6 + 1) (v := u5) (l := (List.range k).map D) ?_ ?_ ?_ (H k) hlen rfl (.tmp 32) (.tmp 34) rfl (by rfl) (by rfl) (by simp) ?_); (focus (exact O1.out)); (focus ((repeat (first | with_reducible assumption | with_reducible exact Below.refl _ _ | with_reducible refine Below.drewN ?_ _ | with_reducible refine Below.drew ?_ | with_reducible refine Below.alloc ?_ (by first | omega | (simp; done) | (simp; omega)) _ | with_reducible refine Below.setCell ?_ (by first | omega | (simp; done) | (simp; omega)) _ | with_reducible refine below_more _ _ ?_ (by first | omega | (simp; done) | (simp; omega)))))); (focus (first | exact o3 | (simp; omega))); intro v2 w2 hown2 hB2 hz2 hs2 hk2; have HOW := Lib.hid hown2; have HBW := Lib.hid hB2; clear hown2 hB2 hk2))
      have hB3 : Below b6 w w2 := Below.trans O2.out (HBW.out.mono (by omega))
      go_ret
      have hB4 : Below w.heap.size w w2 := by rw [HB6.out]; exact hB3
      exact ⟨_, rfl, HOW.out.base (by rw [HB6.out]; omega), hB4⟩
end Go.Proofs.Ythajaabgcbjfkaa
