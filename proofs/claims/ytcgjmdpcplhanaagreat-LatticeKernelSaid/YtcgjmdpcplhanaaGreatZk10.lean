/- Lemmas for the law: E15 E23 V21 DG E25 E26 M9 V31 M10 -/
import Derived.Test.YtcgjmdpcplhanaaGreatZk9
namespace Go.Proofs.YtcgjmdpcplhanaaGreat
theorem zs170 {p q : Prop} (h : q) (f : Wq q → p := by (intro hW; ((refine gar ?_; refine zs4 ?_; refine zs4 ?_; refine zs8 ?_; refine zs8 ?_; refine zs10 ?_; refine zs11 ?_; refine zs8 ?_; refine zs10 ?_; refine zs11 ?_; refine zs93 ?_; refine zs12 ?_; refine zs13 ?_; refine zs6 ?_; refine aL_nil ?_)); exact hW.out)) : p := f ⟨h⟩
theorem zs111 {p q : Prop} (h : q) (f : Wq q → p := by (intro hW; ((refine aLappA rfl rfl rfl rfl zb60 zb60 zb56 zb96 zb32 zb95 zb95 (by (simp only [List.length_map, List.length_append, List.length_cons, List.length_nil]; omega)) zb41 zb52 ?_)); exact hW.out)) : p := f ⟨h⟩
theorem zs171 {p q : Prop} (h : q) (f : Wq q → p := by (intro hW; ((refine gar ?_; refine zs4 ?_; refine zs4 ?_; refine zs33 ?_; refine zs50 ?_; refine zs111 ?_; refine zs6 ?_; refine aL_nil ?_)); exact hW.out)) : p := f ⟨h⟩
theorem zs172 {p q : Prop} (h : q) (f : Wq q → p := by (intro hW; ((refine gar ?_; refine zs4 ?_; refine zs4 ?_; refine zs67 ?_; refine zs23 ?_; refine zs4 ?_; refine zs15 ?_; refine zs50 ?_; refine zs33 ?_; refine zs5 ?_; refine zs42 ?_; refine aL_nil ?_)); exact hW.out)) : p := f ⟨h⟩
theorem zb75 {p : Prop} (h : p := by simp [results, Tryz.results27, go_sem]) : p := h
theorem zs173 {p q : Prop} (h : q) (f : Wq q → p := by (intro hW; ((refine gar ?_; refine zs4 ?_; refine zs33 ?_; refine zs33 ?_; refine zs33 ?_; refine zs77 ?_; refine zs77 ?_; refine zs6 ?_; refine zs6 ?_; refine aL_nil ?_)); exact hW.out)) : p := f ⟨h⟩
end Go.Proofs.YtcgjmdpcplhanaaGreat
namespace Go.Proofs.YtcgjmdpcplhanaaGreat
open Go.RowKit
namespace DW
theorem sgn_z (z : Int) : sgn z = 0 ↔ z = 0 := by unfold sgn; split <;> (try split) <;> omega
def fil (m : List (List Int)) : List (List Int) := m.filter fun l => !(l.all fun z => decide (z = 0))
theorem fil_snoc (m : List (List Int)) (l : List Int) : fil (m ++ [l]) = if l.all (fun z => decide (z = 0)) = true then fil m else fil m ++ [l] := by
 unfold fil
 rw [List.filter_append]
 split <;> rename_i h <;> simp [h]
theorem fil_len (m : List (List Int)) : (fil m).length ≤ m.length := List.length_filter_le _ _
set_option maxRecDepth 20000
set_option maxHeartbeats 1000000
theorem filled_d (m : List (List Int)) (hm : m.length ≤ 1000000) (hm2 : ∀ l ∈ m, l.length ≤ 1000000) (hm3 : ∀ l ∈ m, ∀ z ∈ l, Hf z) : Fn Tryz.prog 114 [dW m] (dW (fil m)) := by
 refine fn_of Tryz.func114 zb95 rfl rfl rfl fun X0 => ?_
 simp only [initL]
 (repeat (first | refine gk fun K hK => ?_ | refine zs2 ?_)); refine zs113 ?_; (repeat (first | refine gk fun K hK => ?_ | refine zs2 ?_)); refine zs113 ?_; (repeat (first | refine gk fun K hK => ?_ | refine zs2 ?_)); refine zs117 ?_; (repeat (first | refine gk fun K hK => ?_ | refine zs2 ?_))
 refine aW_sh (Sh_nil' (t := 3) (k := 3) (T := 113) (wd := 1) zb59 rfl rfl zb41) ?_
 (refine aW_sh (Sh_to (sl' := [(0, dW m), (3, .own 3), (4, zI 0)]) (ow' := [(3, ⟨113, 1, []⟩)]) zb19 zb36) ?_)
 refine aW_loop (fun r s => ∃ k, k ≤ m.length ∧ r = m.length - k ∧ s = ⟨[(0, dW m), (3, .own 3), (4, zI (k : Nat))], [(3, ⟨113, 1, (fil (m.take k)).map dZ⟩)]⟩) (m := m.length) ⟨0, Nat.zero_le _, rfl, rfl⟩ fun r s hs => ?_
 obtain ⟨k, hk, rfl, rfl⟩ := hs
 by_cases hkl : k < m.length
 ·obtain ⟨l, hl⟩ := get_some hkl
  have hll := hm2 l (List.mem_of_getElem? hl)
  have hfl := fil_len (m.take k)
  rw [List.length_take] at hfl
  have hfl2 : (fil (m.take k)).length ≤ 1000000 := Nat.le_trans hfl (by omega)
  clear hfl
  have hsn := fil_snoc (m.take k) l
  rw [← take_snoc hl] at hsn
  obtain ⟨F, hF⟩ : ∃ F, F = fil (m.take k) := ⟨_, rfl⟩
  rw [← hF] at hsn hfl2
  rw [← hF]
  clear hF
  (repeat (first | refine gk fun K hK => ?_ | refine zs2 ?_)); refine zs132 ?_; (repeat (first | refine gk fun K hK => ?_ | refine zs2 ?_))
  refine zs48 ?_
  (repeat (first | refine gk fun K hK => ?_ | refine zs2 ?_)); refine zs127 ?_; (repeat (first | refine gk fun K hK => ?_ | refine zs2 ?_)); refine zs117 ?_; (repeat (first | refine gk fun K hK => ?_ | refine zs2 ?_))
  (refine aW_sh (Sh_to (sl' := [(0, dW m), (3, .own 3), (4, zI (k : Nat)), (5, .sc (.bool true)), (6, zI 0)]) (ow' := [(3, ⟨113, 1, F.map dZ⟩)]) zb19 zb36) ?_)
  refine aW_loop (fun r s => ∃ j b, j ≤ l.length ∧ r = l.length - j ∧ b = (l.take j).all (fun z => decide (z = 0)) ∧ s = ⟨[(0, dW m), (3, .own 3), (4, zI (k : Nat)), (5, .sc (.bool b)), (6, zI (j : Nat))], [(3, ⟨113, 1, F.map dZ⟩)]⟩) (m := l.length) ⟨0, true, Nat.zero_le _, rfl, rfl, rfl⟩ fun r s hs => ?_
  obtain ⟨j, b, hj, rfl, hb, rfl⟩ := hs
  by_cases hjl : j < l.length
  ·obtain ⟨z, hz⟩ := get_some hjl
   have SX := sign_d z (hm3 l (List.mem_of_getElem? hl) z (List.mem_of_getElem? hz))
   have gx := sgn_z z
   have hb' : (l.take (j + 1)).all (fun z => decide (z = 0)) = (b && decide (z = 0)) := by rw [take_snoc hz, List.all_append, ← hb]; simp
   have hd : decide (sgn z = 0) = decide (z = 0) := by
    by_cases h : z = 0
    ·rw [decide_eq_true h, decide_eq_true (gx.2 h)]
    ·rw [decide_eq_false h, decide_eq_false (fun e => h (gx.1 e))]
   clear hb
   cases b with
   | true =>
    rw [Bool.true_and] at hb'
    (repeat (first | refine gk fun K hK => ?_ | refine zs2 ?_)); refine zs157 ?_; (repeat (first | refine gk fun K hK => ?_ | refine zs2 ?_))
    refine zs48 ?_
    (repeat (first | refine gk fun K hK => ?_ | refine zs2 ?_)); refine zs170 ?_; (repeat (first | refine gk fun K hK => ?_ | refine zs2 ?_)); refine zs119 ?_; (repeat (first | refine gk fun K hK => ?_ | refine zs2 ?_))
    simp only [nx, inB]
    exact ⟨l.length - (j + 1), _, by omega, (Sh_to (sl' := [(0, dW m), (3, .own 3), (4, zI (k : Nat)), (5, .sc (.bool (decide (sgn z = 0)))), (6, zI ((j + 1 : Nat) : Int))]) (ow' := [(3, ⟨113, 1, F.map dZ⟩)]) zb19 zb36), j + 1, decide (sgn z = 0), by omega, rfl, by rw [hb', hd], rfl⟩
   | false =>
    rw [Bool.false_and] at hb'
    (repeat (first | refine gk fun K hK => ?_ | refine zs2 ?_)); refine zs157 ?_; (repeat (first | refine gk fun K hK => ?_ | refine zs2 ?_))
    refine zs48 ?_
    (repeat (first | refine gk fun K hK => ?_ | refine zs2 ?_)); refine zs170 ?_; (repeat (first | refine gk fun K hK => ?_ | refine zs2 ?_)); refine zs119 ?_; (repeat (first | refine gk fun K hK => ?_ | refine zs2 ?_))
    simp only [nx, inB]
    exact ⟨l.length - (j + 1), _, by omega, (Sh_to (sl' := [(0, dW m), (3, .own 3), (4, zI (k : Nat)), (5, .sc (.bool false)), (6, zI ((j + 1 : Nat) : Int))]) (ow' := [(3, ⟨113, 1, F.map dZ⟩)]) zb19 zb36), j + 1, false, by omega, rfl, by rw [hb'], rfl⟩
  ·obtain rfl : j = l.length := by omega
   rw [List.take_length] at hb
   rw [← hb] at hsn
   clear hb
   cases b with
   | true =>
    rw [if_pos rfl] at hsn
    (repeat (first | refine gk fun K hK => ?_ | refine zs2 ?_)); refine zs157 ?_; (repeat (first | refine gk fun K hK => ?_ | refine zs2 ?_))
    refine zs45 ?_
    (repeat (first | refine gk fun K hK => ?_ | refine zs2 ?_)); refine zs169 ?_; (repeat (first | refine gk fun K hK => ?_ | refine zs2 ?_))
    refine zs45 ?_
    (repeat (first | refine gk fun K hK => ?_ | refine zs2 ?_)); refine zs119 ?_; (repeat (first | refine gk fun K hK => ?_ | refine zs2 ?_))
    simp only [nx, inB]
    exact ⟨m.length - (k + 1), _, by omega, (Sh_to (sl' := [(0, dW m), (3, .own 3), (4, zI ((k + 1 : Nat) : Int))]) (ow' := [(3, ⟨113, 1, F.map dZ⟩)]) zb19 zb36), k + 1, by omega, rfl, by rw [hsn]⟩
   | false =>
    rw [if_neg (by decide)] at hsn
    (repeat (first | refine gk fun K hK => ?_ | refine zs2 ?_)); refine zs157 ?_; (repeat (first | refine gk fun K hK => ?_ | refine zs2 ?_))
    refine zs45 ?_
    (repeat (first | refine gk fun K hK => ?_ | refine zs2 ?_)); refine zs169 ?_; (repeat (first | refine gk fun K hK => ?_ | refine zs2 ?_))
    refine zs48 ?_
    (repeat (first | refine gk fun K hK => ?_ | refine zs2 ?_)); (refine gar ?_; refine zs4 ?_; refine zs4 ?_; refine zs4 ?_; refine zs67 ?_; refine zs23 ?_; refine zs50 ?_; refine zs51 ?_; refine zs6 ?_; refine aL_nil ?_); (repeat (first | refine gk fun K hK => ?_ | refine zs2 ?_)); refine zs119 ?_; (repeat (first | refine gk fun K hK => ?_ | refine zs2 ?_))
    simp only [nx, inB]
    exact ⟨m.length - (k + 1), _, by omega, (Sh_to (sl' := [(0, dW m), (3, .own 3), (4, zI ((k + 1 : Nat) : Int))]) (ow' := [(3, ⟨113, 1, F.map dZ ++ [dZ l]⟩)]) zb19 zb36), k + 1, by omega, rfl, by rw [hsn, List.map_append]; rfl⟩
 ·obtain rfl : k = m.length := by omega
  rw [List.take_length]
  (repeat (first | refine gk fun K hK => ?_ | refine zs2 ?_)); refine zs132 ?_; (repeat (first | refine gk fun K hK => ?_ | refine zs2 ?_))
  refine zs45 ?_
  (repeat (first | refine gk fun K hK => ?_ | refine zs2 ?_))
  refine aW_sh (Sh_shut' (k := 3) zb56 zb45 zb49) ?_
  refine zs140 ?_
  (repeat (first | refine gk fun K hK => ?_ | refine zs2 ?_))
  exact ⟨_, Sh.refl, .one (.tmp 2) _ rfl (.tmp 2 rfl)⟩
end DW
end Go.Proofs.YtcgjmdpcplhanaaGreat
namespace Go.Proofs.YtcgjmdpcplhanaaGreat
open Go.RowKit
namespace DW
theorem bd_mem {M : Mx.Mat} {B : Nat} (h : Mx.Bd B M) {r : List Int} (hr : r ∈ M) {z : Int} (hz : z ∈ r) : z.natAbs ≤ B := by
 obtain ⟨i, hi, e⟩ := List.getElem_of_mem hr
 obtain ⟨j, hj, e2⟩ := List.getElem_of_mem hz
 have := h i j
 unfold Mx.at' Mx.rw at this
 rw [List.getD_eq_getElem?_getD, List.getD_eq_getElem?_getD, List.getElem?_eq_getElem hi, e, Option.getD_some, List.getElem?_eq_getElem hj, e2] at this
 exact this
theorem wid_exp {w : Nat} (h : w ≤ 5) : 2 * (50 * 11 ^ w) ≤ 3000000000 := by
 have : (11 : Nat) ^ w ≤ 11 ^ 5 := Nat.pow_le_pow_right (by omega) h
 omega
set_option maxRecDepth 20000
set_option maxHeartbeats 2000000
end DW
end Go.Proofs.YtcgjmdpcplhanaaGreat
namespace Go.Proofs.YtcgjmdpcplhanaaGreat
open Go.RowKit Go.BigFrame
attribute [local go_sem ↓] Go.wp_at_zero Go.wp_at_succ
theorem drop_rw (M : Mx.Mat) (k i : Nat) : Mx.rw (M.drop k) i = Mx.rw M (k + i) := by
 unfold Mx.rw
 rw [List.getD_eq_getElem?_getD, List.getD_eq_getElem?_getD, List.getElem?_drop]
theorem drop_bd {X : Nat} {M : Mx.Mat} (h : Mx.Bd X M) (k : Nat) : Mx.Bd X (M.drop k) := fun i j => by
 unfold Mx.at'
 rw [drop_rw]; exact h (k + i) j
theorem take_bd {X : Nat} {M : Mx.Mat} (h : Mx.Bd X M) (k : Nat) : Mx.Bd X (M.take k) := fun i j => by
 have e : Mx.rw (M.take k) i = if i < k then Mx.rw M i else [] := by
  unfold Mx.rw
  rw [List.getD_eq_getElem?_getD, List.getD_eq_getElem?_getD, List.getElem?_take]
  split <;> rfl
 unfold Mx.at'
 rw [e]
 split
 ·exact h i j
 ·simp
theorem MR.split {w : World} {v : Value} {n : Nat} {M : Mx.Mat} (h : MR w v n M) : ∃ a cap, v = .slice a M.length cap ∧ M.length ≤ cap ∧ MR w (.slice a M.length cap) n M := by
 obtain ⟨a, cap, rfl, h2⟩ := h
 exact ⟨a, cap, rfl, h2.1, a, cap, rfl, h2⟩
theorem MR.addr {w : World} {a : Option Addr} {L cap n : Nat} {M : Mx.Mat} (h : MR w (.slice a L cap) n M) (h0 : M ≠ []) : ∃ g o, a = some ⟨g, o, none⟩ := by
 obtain ⟨a', c', e, _, _, h4⟩ := h
 cases e
 rcases h4 with h4 | ⟨g, o, e, _⟩
 ·exact absurd h4 h0
 ·exact ⟨g, o, e⟩
theorem MR.drop {w : World} {g o L cap n k : Nat} {M : Mx.Mat} (h : MR w (.slice (some ⟨g, o, none⟩) L cap) n M) (hk : k < L) : MR w (.slice (some ⟨g, o + k, none⟩) (L - k) (cap - k)) n (M.drop k) := by
 obtain ⟨a', c', e, h2, h3, h4⟩ := h
 cases e
 have hl : (M.drop k).length = M.length - k := List.length_drop
 refine ⟨_, _, by rw [hl], by omega, fun r hr => h3 r (List.mem_of_mem_drop hr), .inr ?_⟩
 rcases h4 with h4 | ⟨g', o', e, h5, h6⟩
 ·rw [h4] at hk; simp at hk
 ·cases e
  refine ⟨g, o + k, rfl, h5, fun i hi => ?_⟩
  rw [hl] at hi
  obtain ⟨b, c, c1, c2⟩ := h6 (k + i) (by omega)
  rw [drop_rw]
  refine ⟨b, c, ?_, c2⟩
  rw [Nat.add_assoc]; exact c1
theorem ZMB.base {B B' : Nat} {w : World} {v : Value} {m : List (List Int)} (h : ZMB B w v m) (hb : B' ≤ B) : ZMB B' w v m := by
 obtain ⟨a, cap, rfl, hc, h⟩ := h
 refine ⟨a, cap, rfl, hc, ?_⟩
 rcases h with h | ⟨g, rfl, h1, hg, h2⟩
 ·exact .inl h
 ·refine .inr ⟨g, rfl, by omega, hg, fun i l hl => ?_⟩
  obtain ⟨g', h3, h4, h5⟩ := h2 i l hl
  exact ⟨g', h3, by omega, h5⟩
def KT (m : Mx.Mat) : Nat × Mx.Mat := Mx.red m.length 0 (0, (HermU m).drop (HT m).1)
def KerM (m : Mx.Mat) : Mx.Mat := (KT m).2.take (KT m).1
theorem HT_le {m : Mx.Mat} (h : Mx.Rc (wid m) m) : (HT m).1 ≤ m.length := by
 have := red_le (wid m) 0 (extM_rc h)
 rw [extM_len] at this
 exact this
theorem HU_len {m : Mx.Mat} (h : Mx.Rc (wid m) m) : (HermU m).length = m.length := by unfold HermU dp; rw [List.length_map, HT_len h]
theorem HU_rc {m : Mx.Mat} (h : Mx.Rc (wid m) m) : Mx.Rc m.length (HermU m) := fun r hr => by
 obtain ⟨x, hx, rfl⟩ := List.mem_map.1 hr
 rw [List.length_drop, HT_rc h x hx]; omega
theorem KD_rc {m : Mx.Mat} (h : Mx.Rc (wid m) m) : Mx.Rc m.length ((HermU m).drop (HT m).1) := fun r hr => HU_rc h r (List.mem_of_mem_drop hr)
theorem KT_bd {m : Mx.Mat} (h : chk m = 0) : Mx.Bd (2 ^ (50 * 11 ^ wid m * 11 ^ m.length)) (KT m).2 := by
 have h6 : 6 ≤ 50 * 11 ^ wid m := Nat.le_trans (by omega : 6 ≤ 50) (Nat.le_mul_of_pos_right 50 (Nat.pow_pos (by omega)))
 have := Mx.red_bd (n := m.length) h6 m.length 0 0 ((HermU m).drop (HT m).1) (KD_rc (chk_ok h).2.2.1) (by rw [Nat.pow_zero, Nat.mul_one]; exact drop_bd (dp_bd (HT_bd h)) _)
 rw [Nat.zero_add] at this
 exact this
theorem e50' {a b : Nat} (h : a + b ≤ 10) : 2 * (50 * 11 ^ a * 11 ^ b) ≤ 6000000000000 := by
 rw [Nat.mul_assoc 50, ← Nat.pow_add]; exact e50 h
def KOut (B : Nat) (m : Mx.Mat) (e : Ending) (w' : World) : Prop :=
 (chk m ≠ 0 ∧ e = .returned (.tuple #[.slice none 0 0, .int .i64 (chk m)])) ∨
 (chk m = 0 ∧ m.length = (HT m).1 ∧ e = .returned (.tuple #[.slice none 0 0, .int .i64 (0)])) ∨
 (chk m = 0 ∧ m.length ≠ (HT m).1 ∧ ¬ InL 1000000000000000 (KerM m) ∧ e = .returned (.tuple #[.slice none 0 0, .int .i64 (8)])) ∨
 (chk m = 0 ∧ m.length ≠ (HT m).1 ∧ InL 1000000000000000 (KerM m) ∧ ∃ v, e = .returned (.tuple #[v, .int .i64 (0)]) ∧ ZMB B w' v (KerM m))
set_option maxRecDepth 10000 in
set_option maxHeartbeats 4000000 in
theorem lkernel_any (m : Mx.Mat) (v : Value) (hm : m.length ≤ 1000000) (hr : ∀ r ∈ m, r.length ≤ 1000000) (hs : chk m = 0 → wid m + m.length ≤ 10) (w : World) (h : ZM w v m) :
  Calls Tryz.prog 27 #[v] w fun e w' => KOut w.heap.size m e w' ∧ Below w.heap.size w w' := by
 have CK := Lib.hid (fun w h => check_any m v (by omega) (fun r h => Nat.le_trans (hr r h) (by omega)) w h)
 have H := Lib.hid h
 by_cases hc : chk m = 0
 ·have HC := Lib.hid hc
  have hn := hs hc
  have hk := chk_ok hc
  have OF := Lib.hid (fun w h => wof_any m (wid m) v (by omega) (by omega) hk.2.2.1 (chk_i64 hc) w h)
  have TR := Lib.hid (fun v w h => trans_any m v hc (by omega) w h)
  have HUL : Hid ((HermU m).length = m.length) := HU_len hk.2.2.1
  have hle := HT_le hk.2.2.1
  have HE : Hid (∀ v w, MR w v m.length ((HermU m).drop (HT m).1) → Calls Tryz.prog 85 #[v] w (HPost w m.length (KerM m))) := fun v w h => hermite_any _ m.length (50 * 11 ^ wid m) v (by show ((HermU m).drop (HT m).1).length ≤ 1000; rw [List.length_drop, HU_len hk.2.2.1]; omega) (by omega) (Nat.le_trans (by omega : 6 ≤ 50) (Nat.le_mul_of_pos_right 50 (Nat.pow_pos (by omega)))) (e50' hn) (drop_bd (dp_bd (HT_bd hc)) _) w h
  have hkl : (KerM m).length ≤ m.length := by
   unfold KerM KT
   rw [List.length_take, (Mx.red_re _ 0 (0, (HermU m).drop (HT m).1) (KD_rc hk.2.2.1)).len]
   show min _ ((HermU m).drop (HT m).1).length ≤ _
   rw [List.length_drop, HU_len hk.2.2.1]; omega
  have SM : Hid (∀ v w, MR w v m.length (KerM m) → Calls Tryz.prog 74 #[v, .int .i64 (1000000000000000)] w (SMQ w 1000000000000000 (KerM m))) := fun v w h => msmall_own (KerM m) m.length 1000000000000000 v (by omega) (by omega) (by omega) (fun i j => fit_pow (take_bd (KT_bd hc) _ i j) (by have := e50' hn; omega)) w h
  rw [hc] at CK
  have hul : ∀ k, m.length ≤ k → m.length ≤ k := fun _ h => h
  have HTE : Hid (∀ p, TPost p (wid m) m.length (HT m) = TPost p (wid m) m.length (HT m)) := fun _ => rfl
  by_cases hrk : m.length = (HT m).1
  ·have HRK := Lib.hid hrk
   have hrk2 : ((HermU m).length : Int) = ((HT m).1 : Int) := by rw [HUL.out, hrk]
   clear h hs hr hm hk hn hc hle hkl hul HTE HE SM hrk
   go_enter Tryz.func27, Tryz.ntmps27
   go_wp2_with (first
    | (go_at_call 40; ((with_reducible refine (CK.out _ H.out).mono ?_); rintro e w1 ⟨rfl, hb1⟩; have HB1 := Lib.hid hb1; clear hb1))
    | (go_at_call 72; ((with_reducible refine (OF.out _ (H.out.below HB1.out (Nat.le_refl _))).mono ?_); rintro e w2 ⟨⟨gm, gs, cs, cp, rfl, hcp, hmb⟩, hb2⟩; have HM2 := Lib.hid (hmb.mr hcp); have HB2 := Lib.hid (HB1.out.trans (hb2.mono HB1.out.size)); clear hb2 hmb))
    | (go_at_call 73; ((with_reducible refine (TR.out _ _ HM2.out).mono ?_); rintro e w3 ⟨⟨vh, vu, rfl, hvh, hvu⟩, hb3⟩; obtain ⟨a3, cap3, rfl, hcp3, hvu⟩ := hvu.split; rw [show (dp (wid m) (HT m).2).length = (HT m).1 from HUL.out.trans HRK.out] at *; have HVU := Lib.hid hvu; have HB3 := Lib.hid (HB2.out.trans (hb3.mono HB2.out.size)); clear hb3 hvh hvu)))
   refine bodyPost_ret (v := .tuple #[.slice none 0 0, .int .i64 (0)]) zb75 rfl ⟨.inr (.inl ⟨HC.out, HRK.out, rfl⟩), HB3.out⟩
  ·have HRK : Hid (m.length ≠ (HT m).1) := hrk
   have hlt : (HT m).1 < m.length := by omega
   have DL := Lib.hid hlt
   have hne : Hid (HermU m ≠ []) := fun e => by have h1 := HUL.out; rw [e] at h1; simp at h1; omega
   have hn2 : ¬ (m.length : Int) = ((HT m).1 : Int) := by omega
   have hn3 : ((HT m).1 : Int) ≤ (m.length : Int) := by omega
   clear h hs hr hm hk hn hc hle hkl hul HTE
   go_enter Tryz.func27, Tryz.ntmps27
   by_cases hi : InL 1000000000000000 (KerM m)
   ·have HI := Lib.hid hi
    clear hi
    go_wp2_with (first
     | (go_at_call 40; ((with_reducible refine (CK.out _ H.out).mono ?_); rintro e w1 ⟨rfl, hb1⟩; have HB1 := Lib.hid hb1; clear hb1))
     | (go_at_call 72; ((with_reducible refine (OF.out _ (H.out.below HB1.out (Nat.le_refl _))).mono ?_); rintro e w2 ⟨⟨gm, gs, cs, cp, rfl, hcp, hmb⟩, hb2⟩; have HM2 := Lib.hid (hmb.mr hcp); have HB2 := Lib.hid (HB1.out.trans (hb2.mono HB1.out.size)); clear hb2 hmb))
     | (go_at_call 73; ((with_reducible refine (TR.out _ _ HM2.out).mono ?_); rintro e w3 ⟨⟨vh, vu, rfl, hvh, hvu⟩, hb3⟩; obtain ⟨a3, cap3, rfl, hcp3, hvu⟩ := hvu.split; obtain ⟨g3, o3, rfl⟩ := hvu.addr hne.out; rw [show (dp (wid m) (HT m).2).length = m.length from HUL.out] at *; have hc1 : (m.length : Int) ≤ (cap3 : Int) := (by omega); have hc2 : ¬ cap3 = (HT m).1 := (by omega); have hc3 : ((HT m).1 : Int) ≤ (cap3 : Int) := (by omega); have HVU := Lib.hid hvu; have HB3 := Lib.hid (HB2.out.trans (hb3.mono HB2.out.size)); clear hb3 hvh hvu))
     | (go_at_call 85; ((with_reducible refine (HE.out _ _ (HVU.out.drop DL.out)).mono ?_); rintro e w5 ⟨⟨vk, rfl, hk5⟩, hb5⟩; have HK5 := Lib.hid hk5; have HB5 := Lib.hid (HB3.out.trans (hb5.mono HB3.out.size)); clear hk5 hb5))
     | (go_at_call 74; ((with_reducible refine (SM.out _ _ HK5.out).mono ?_); rintro e w4 ⟨hsm, hb4⟩; rw [if_pos HI.out] at hsm; obtain ⟨vz, rfl, hz⟩ := hsm; have HZ := Lib.hid (hz.base HB5.out.size); clear hz; have HB4 := Lib.hid (HB5.out.trans (hb4.mono HB5.out.size)); clear hb4)))
    refine bodyPost_ret (v := .tuple #[vz, .int .i64 (0)]) zb75 rfl ⟨.inr (.inr (.inr ⟨HC.out, HRK.out, HI.out, _, rfl, HZ.out⟩)), HB4.out⟩
   ·have HI := Lib.hid hi
    clear hi
    go_wp2_with (first
     | (go_at_call 40; ((with_reducible refine (CK.out _ H.out).mono ?_); rintro e w1 ⟨rfl, hb1⟩; have HB1 := Lib.hid hb1; clear hb1))
     | (go_at_call 72; ((with_reducible refine (OF.out _ (H.out.below HB1.out (Nat.le_refl _))).mono ?_); rintro e w2 ⟨⟨gm, gs, cs, cp, rfl, hcp, hmb⟩, hb2⟩; have HM2 := Lib.hid (hmb.mr hcp); have HB2 := Lib.hid (HB1.out.trans (hb2.mono HB1.out.size)); clear hb2 hmb))
     | (go_at_call 73; ((with_reducible refine (TR.out _ _ HM2.out).mono ?_); rintro e w3 ⟨⟨vh, vu, rfl, hvh, hvu⟩, hb3⟩; obtain ⟨a3, cap3, rfl, hcp3, hvu⟩ := hvu.split; obtain ⟨g3, o3, rfl⟩ := hvu.addr hne.out; rw [show (dp (wid m) (HT m).2).length = m.length from HUL.out] at *; have hc1 : (m.length : Int) ≤ (cap3 : Int) := (by omega); have hc2 : ¬ cap3 = (HT m).1 := (by omega); have hc3 : ((HT m).1 : Int) ≤ (cap3 : Int) := (by omega); have HVU := Lib.hid hvu; have HB3 := Lib.hid (HB2.out.trans (hb3.mono HB2.out.size)); clear hb3 hvh hvu))
     | (go_at_call 85; ((with_reducible refine (HE.out _ _ (HVU.out.drop DL.out)).mono ?_); rintro e w5 ⟨⟨vk, rfl, hk5⟩, hb5⟩; have HK5 := Lib.hid hk5; have HB5 := Lib.hid (HB3.out.trans (hb5.mono HB3.out.size)); clear hk5 hb5))
     | (go_at_call 74; ((with_reducible refine (SM.out _ _ HK5.out).mono ?_); rintro e w4 ⟨hsm, hb4⟩; rw [if_neg HI.out] at hsm; subst hsm; have HB4 := Lib.hid (HB5.out.trans (hb4.mono HB5.out.size)); clear hb4)))
    refine bodyPost_ret (v := .tuple #[.slice none 0 0, .int .i64 (8)]) zb75 rfl ⟨.inr (.inr (.inl ⟨HC.out, HRK.out, HI.out, rfl⟩)), HB4.out⟩
 ·have HC : Hid (chk m ≠ 0) := hc
  have hc1 : ¬ chk m = 0 := hc
  clear h hs hr hm hc
  have hci : Hid (∃ R, R = chk m) := ⟨_, rfl⟩
  obtain ⟨R, hR⟩ := hci.out
  rw [← hR] at CK hc1
  have HR := Lib.hid hR
  clear hR hci
  go_enter Tryz.func27, Tryz.ntmps27
  go_wp2_with (go_at_call 40; (with_reducible refine (CK.out _ H.out).mono ?_); rintro e w1 ⟨rfl, hb1⟩; have HB1 := Lib.hid hb1; clear hb1)
  refine bodyPost_ret (v := .tuple #[.slice none 0 0, .int .i64 R]) zb75 rfl ⟨.inl ⟨HC.out, by rw [HR.out]⟩, HB1.out⟩
end Go.Proofs.YtcgjmdpcplhanaaGreat
namespace Go.Proofs.YtcgjmdpcplhanaaGreat
open Go.RowKit
namespace DW
section
variable {P : Program} {s : S} {o : Oper}
theorem d_slice_from {x y : Operand} {tt : TypeId} {wd : Nat} {lo : List D} {q : IntKind} {z : Int} {m : Nat} (ho : o.op = .slice tt x (some y) none none) (hx : s.op x = .ls wd lo) (hy : s.op y = .sc (.int q z)) (ht : P.underlying tt = some (.slice (P.elem tt))) (hz : (P.info? (P.elem tt)).map (·.size) = some wd) (hm : z.toNat = m) (hb : 0 ≤ z ∧ z ≤ lo.length) : Does P o s (.ls wd (lo.drop m)) := fun X f a w base _ _ hs => by
 subst hm
 have h1 := hs x zb82
 have h2 := hs y zb82
 rw [hx] at h1
 rw [hy] at h2
 simp only [SR, AR] at h1 h2
 obtain ⟨ad, c, h3, h4, h5⟩ := h1
 cases hq : P.info? (P.elem tt) with
 | none => rw [hq] at hz; cases hz
 | some inf =>
  rw [hq] at hz
  simp only [Option.map_some, Option.some.injEq] at hz
  have hlen : (lo.drop z.toNat).length = lo.length - z.toNat := by rw [List.length_drop]
  have hr : (execOp a.eval o).run P w = .ok (.value (.slice (if c = z.toNat then ad else ad.map (·.add (z.toNat * wd))) (lo.length - z.toNat) (c - z.toNat))) w := by
   unfold execOp; rw [ho]
   simp only [Option.map_none, Option.map_some, h3, h2.1]
   have hru := run_underlying ht w
   simp [Instr.sliceAt, Instr.slice, Instr.sliceBounds, Instr.sliceBound, asIntOf, hru, hb.1, hb.2, sizeOf, typeInfo, hq, hz]
  refine relD_val hr ?_
  simp only [SR, AR]
  refine ⟨_, c - z.toNat, by rw [hlen], by rw [hlen]; omega, ?_⟩
  by_cases he : lo.drop z.toNat = []
  ·exact .inl he
  ·have hlt : z.toNat < lo.length := Nat.lt_of_not_le fun h => he (List.drop_eq_nil_of_le h)
   rcases h5 with h5 | ⟨b, off, e, k1, k2, k3⟩
   ·rw [h5] at hlt; simp at hlt
   ·refine .inr ⟨b, off + z.toNat * wd, ?_, k1, k2, ARs.mk fun i d hd => ?_⟩
    ·rw [if_neg (by omega), e, Option.map_some, addr_add]
    ·rw [List.getElem?_drop] at hd
     have := ARs.at k3 hd
     rw [Nat.add_mul, ← Nat.add_assoc] at this
     exact this
end
end DW
end Go.Proofs.YtcgjmdpcplhanaaGreat
namespace Go.Proofs.YtcgjmdpcplhanaaGreat
open Go.RowKit
namespace DW
theorem bd_drop {M : Mx.Mat} {B r : Nat} (h : Mx.Bd B M) : Mx.Bd B (M.drop r) := fun i j => by
 have := h (r + i) j
 unfold Mx.at' Mx.rw at this ⊢
 rw [List.getD_eq_getElem?_getD, List.getD_eq_getElem?_getD, List.getElem?_drop]
 rw [List.getD_eq_getElem?_getD, List.getD_eq_getElem?_getD] at this
 exact this
theorem unit_get {n i k : Nat} (hk : k < n) : (unitR n i)[k]? = some (if k = i then 1 else 0) := by
 unfold unitR
 by_cases h : k = i
 ·subst h
  rw [if_pos rfl, List.getElem?_set_self (by simpa using hk)]
 ·rw [if_neg h, List.getElem?_set_ne (fun e => h e.symm), List.getElem?_replicate, if_pos hk]
theorem fil_one_z {l : List Int} (h : l.all (fun z => decide (z = 0)) = true) : fil [l] = [] := by simp [fil, h]
theorem fil_one_n {l : List Int} (h : l.all (fun z => decide (z = 0)) = false) : fil [l] = [l] := by simp [fil, h]
def kO (w r : Nat) (H : Mx.Mat) (k : Nat) : Mx.Mat := ((H.take k).drop r).map (List.drop w)
theorem kO_snoc {w r k : Nat} {H : Mx.Mat} {l : List Int} (h : H[k]? = some l) : kO w r H (k + 1) = if k < r then kO w r H k else kO w r H k ++ [l.drop w] := by
 unfold kO
 have hk := (List.getElem?_eq_some_iff.1 h).1
 rw [take_snoc h]
 split
 ·rw [List.drop_append, List.drop_eq_nil_of_le zb94, List.drop_eq_nil_of_le zb94]; simp
 ·rw [List.drop_append_of_le_length zb94, List.map_append]; rfl
theorem kO_len (w r : Nat) (H : Mx.Mat) (k : Nat) : (kO w r H k).length ≤ H.length := by
 unfold kO; simp; omega
theorem head_zero {m : Mx.Mat} (hc : chk m = 0) {k : Nat} {l : List Int} (hl : (HT m).2[k]? = some l) : (l.take (wid m)).all (fun z => decide (z = 0)) = !decide (k < (HT m).1) := by
 have hR := HT_rc (chk_ok hc).2.2.1
 obtain ⟨pv, he⟩ := Mx.red_ech (wid m) 0 (0, extM m) id (extM_rc (chk_ok hc).2.2.1) (Mx.ech_start _)
 rw [Nat.zero_add] at he
 rw [show Mx.red (wid m) 0 (0, extM m) = HT m from rfl] at he
 have hat : ∀ j, l.getD j 0 = Mx.at' (HT m).2 k j := fun j => by
  unfold Mx.at' Mx.rw
  rw [List.getD_eq_getElem?_getD (l := (HT m).2), hl]; rfl
 have hll := hR l (List.mem_of_getElem? hl)
 by_cases hk : k < (HT m).1
 ·rw [decide_eq_true hk]
  refine Bool.eq_false_iff.2 fun h => ?_
  have h1 := he.pos k hk
  have h2 := he.lt k hk
  rw [← hat, List.getD_eq_getElem?_getD] at h1
  have hmem : (l.getD (pv k) 0) ∈ l.take (wid m) := by
   rw [List.getD_eq_getElem?_getD, List.getElem?_eq_getElem (by omega), Option.getD_some]
   exact List.mem_take_iff_getElem.2 ⟨pv k, by omega, rfl⟩
  have := List.all_eq_true.1 h _ hmem
  rw [List.getD_eq_getElem?_getD] at this
  simp only [decide_eq_true_eq] at this
  omega
 ·rw [decide_eq_false hk]
  refine List.all_eq_true.2 fun z hz => ?_
  obtain ⟨j, hj, e⟩ := List.mem_take_iff_getElem.1 hz
  have h1 := he.zb k (by omega) j (by omega)
  rw [← hat, List.getD_eq_getElem?_getD, List.getElem?_eq_getElem (by omega), Option.getD_some, e] at h1
  exact decide_eq_true h1
set_option maxRecDepth 20000
set_option maxHeartbeats 2000000
theorem kernelof_d (m : Mx.Mat) (hc : chk m = 0) (h5 : m.length ≤ 5) : Fn Tryz.prog 86 [dW m] (dW (KT m).2) := by
 obtain ⟨k1, k2, k3, k4⟩ := chk_ok hc
 have hHL := HT_len k3
 have hHR := HT_rc k3
 have hr : (HT m).1 ≤ m.length := HT_le k3
 have hHB : Mx.Bd (2 ^ (50 * 11 ^ (HT m).1)) (HT m).2 := Mx.red_bdr (n := wid m + m.length) (e := 50) (by omega) (wid m) 0 0 (extM m) (extM_rc k3) (Nat.zero_le _) (by simpa using extM_bd (chk_bd hc))
 have hx11 : 2 * (50 * 11 ^ m.length) ≤ 3000000000 := wid_exp h5
 have EC := echelon_d (extM m) (wid m + m.length) (wid m) 50 (extM_rc k3) (by omega) (by omega) (by rw [extM_len]; omega) (by omega) (by rw [extM_len]; exact hx11) (extM_bd (chk_bd hc))
 rw [show (Mx.red (wid m) 0 (0, extM m)).2 = (HT m).2 from rfl] at EC
 have hAl : ((HermU m).drop (HT m).1).length = m.length - (HT m).1 := by rw [List.length_drop, HU_len k3]
 have E2 := echelon_d ((HermU m).drop (HT m).1) m.length m.length (50 * 11 ^ (HT m).1) (fun r hr => HU_rc k3 r (List.mem_of_mem_drop hr)) (Nat.le_refl _) (by omega) (by omega) (Nat.le_trans (by omega : 6 ≤ 50 * 1) (Nat.mul_le_mul_left 50 (Nat.pow_pos (by omega)))) (by
  rw [hAl, Nat.mul_assoc, ← Nat.pow_add, Nat.add_sub_cancel' hr]; exact hx11) (bd_drop (dp_bd hHB))
 rw [show (Mx.red m.length 0 (0, (HermU m).drop (HT m).1)).2 = (KT m).2 from rfl] at E2
 have hO : kO (wid m) (HT m).1 (HT m).2 m.length = (HermU m).drop (HT m).1 := by
  unfold kO HermU dp
  rw [List.take_of_length_le (by omega), List.map_drop]
 have hZ := fun (k : Nat) (l : List Int) (h : (HT m).2[k]? = some l) => head_zero hc h
 have hFi := fun (k : Nat) (l : List Int) (h : (HT m).2[k]? = some l) => filled_d [l.take (wid m)] (by simp) (fun x hx => by rw [List.mem_singleton.1 hx, List.length_take]; omega) (fun x hx z hz => by
  rw [List.mem_singleton.1 hx] at hz
  exact hf_bits (bd_mem hHB (List.mem_of_getElem? h) (List.mem_of_mem_take hz)) (by
   have : 50 * 11 ^ (HT m).1 ≤ 50 * 11 ^ m.length := Nat.mul_le_mul_left 50 (Nat.pow_le_pow_right (by omega) hr)
   omega))
 have h0w : m.length = 0 → wid m = 0 := fun h => by rw [List.eq_nil_of_length_eq_zero h]; rfl
 rw [← hO] at E2
 clear hO hHB hx11 hAl
 generalize (HT m).2 = H at *
 generalize (HT m).1 = r at *
 generalize (KT m).2 = R at *
 have O1 := of_d 1 (by omega)
 have O0 := of_d 0 (by omega)
 refine fn_of Tryz.func86 zb95 rfl rfl rfl fun X0 => ?_
 simp only [initL]
 (repeat (first | refine gk fun K hK => ?_ | refine zs2 ?_))
 refine zs113 ?_
 (repeat (first | refine gk fun K hK => ?_ | refine zs2 ?_))
 refine zs117 ?_
 (repeat refine zs2 ?_)
 refine gk fun K2 hK2 => ?_
 have TAIL : ∀ s, Sh X0 Tryz.f86.ntmps s ⟨[(0, dW m), (3, zI (wid m))], []⟩ → K2 s := by
  intro s hs
  apply hK2
  refine aW_sh hs ?_
  clear hK2
  (repeat (first | refine gk fun K hK => ?_ | refine zs2 ?_)); refine zs113 ?_; (repeat (first | refine gk fun K hK => ?_ | refine zs2 ?_)); refine zs117 ?_; (repeat (first | refine gk fun K hK => ?_ | refine zs2 ?_))
  refine aW_sh (Sh_nil' (t := 4) (k := 4) (T := 113) (wd := 1) zb59 rfl rfl zb41) ?_
  (refine aW_sh (Sh_to (sl' := [(0, dW m), (3, zI (wid m)), (4, .own 4), (5, zI 0)]) (ow' := [(4, ⟨113, 1, []⟩)]) zb19 zb36) ?_)
  refine aW_loop (fun q s => ∃ i, i ≤ m.length ∧ q = m.length - i ∧ s = ⟨[(0, dW m), (3, zI (wid m)), (4, .own 4), (5, zI (i : Nat))], [(4, ⟨113, 1, ((extM m).take i).map dZ⟩)]⟩) (m := m.length) ⟨0, Nat.zero_le _, rfl, rfl⟩ fun q s hs => ?_
  obtain ⟨i, hi, rfl, rfl⟩ := hs
  by_cases him : i < m.length
  ·have hl := rw_get him
   have hle := k3 _ (List.mem_of_getElem? hl)
   have hxs := take_snoc (extM_get him)
   have hul := unitR_len m.length i
   have hug := fun k (hk : k < m.length) => unit_get (i := i) hk
   have htl : ((extM m).take i).length ≤ 64 := by rw [List.length_take]; omega
   obtain ⟨l, hL⟩ : ∃ l, l = Mx.rw m i := ⟨_, rfl⟩
   obtain ⟨u, hU⟩ : ∃ u, u = unitR m.length i := ⟨_, rfl⟩
   obtain ⟨G, hG⟩ : ∃ G, G = (extM m).take i := ⟨_, rfl⟩
   rw [← hL] at hl hle hxs
   rw [← hU] at hul hug hxs
   rw [← hG] at hxs htl
   rw [← hG]
   clear hL hU hG
   (repeat (first | refine gk fun K hK => ?_ | refine zs2 ?_)); refine zs132 ?_; (repeat (first | refine gk fun K hK => ?_ | refine zs2 ?_))
   refine zs48 ?_
   (repeat (first | refine gk fun K hK => ?_ | refine zs2 ?_)); (refine gar ?_; (refine aLempty (k := 25) (wd := 2) (T := Tryz.prog.elem 113) rfl rfl rfl rfl zb95 zb95 zb96 zb96 zb41 ?_); refine zs4 ?_; refine zs4 ?_; refine zs67 ?_; refine zs23 ?_; refine zs111 ?_; refine zs6 ?_; refine aL_nil ?_); (repeat (first | refine gk fun K hK => ?_ | refine zs2 ?_)); refine zs117 ?_; (repeat (first | refine gk fun K hK => ?_ | refine zs2 ?_))
   (refine aW_sh (Sh_to (sl' := [(0, dW m), (3, zI (wid m)), (4, .own 4), (5, zI (i : Nat)), (6, .own 25), (7, zI 0)]) (ow' := [(25, ⟨62, 2, l.map .nm⟩), (4, ⟨113, 1, G.map dZ⟩)]) zb19 zb36) ?_)
   refine aW_loop (fun q s => ∃ k, k ≤ m.length ∧ q = m.length - k ∧ s = ⟨[(0, dW m), (3, zI (wid m)), (4, .own 4), (5, zI (i : Nat)), (6, .own 25), (7, zI (k : Nat))], [(25, ⟨62, 2, (l ++ u.take k).map .nm⟩), (4, ⟨113, 1, G.map dZ⟩)]⟩) (m := m.length) ⟨0, Nat.zero_le _, rfl, by simp⟩ fun q s hs => ?_
   obtain ⟨k, hk, rfl, rfl⟩ := hs
   by_cases hkm : k < m.length
   ·have hg := hug k hkm
    have hts := take_snoc hg
    have hlu : (l ++ u.take k).length ≤ 1000 := by rw [List.length_append, List.length_take]; omega
    have hsn : l ++ u.take (k + 1) = (l ++ u.take k) ++ [if k = i then 1 else 0] := by rw [hts, List.append_assoc]
    obtain ⟨V, hV⟩ : ∃ V, V = l ++ u.take k := ⟨_, rfl⟩
    rw [← hV] at hlu hsn
    rw [← hV]
    clear hV hts hg hxs
    by_cases hki : k = i
    ·rw [if_pos hki] at hsn
     (repeat (first | refine gk fun K hK => ?_ | refine zs2 ?_)); refine zs132 ?_; (repeat (first | refine gk fun K hK => ?_ | refine zs2 ?_))
     refine zs48 ?_
     (repeat (first | refine gk fun K hK => ?_ | refine zs2 ?_)); refine zs117 ?_; (repeat (first | refine gk fun K hK => ?_ | refine zs2 ?_)); (refine gar ?_; refine zs4 ?_; refine zs4 ?_; refine zs76 ?_; refine aL_nil ?_); (repeat (first | refine gk fun K hK => ?_ | refine zs2 ?_))
     refine zs48 ?_
     (repeat (first | refine gk fun K hK => ?_ | refine zs2 ?_)); refine zs117 ?_; (repeat (first | refine gk fun K hK => ?_ | refine zs2 ?_)); refine zs171 ?_; (repeat (first | refine gk fun K hK => ?_ | refine zs2 ?_)); refine zs119 ?_; (repeat (first | refine gk fun K hK => ?_ | refine zs2 ?_))
     simp only [nx, inB]
     exact ⟨m.length - (k + 1), _, by omega, (Sh_to (sl' := [(0, dW m), (3, zI (wid m)), (4, .own 4), (5, zI (i : Nat)), (6, .own 25), (7, zI ((k + 1 : Nat) : Int))]) (ow' := [(25, ⟨62, 2, V.map .nm ++ [.nm 1]⟩), (4, ⟨113, 1, G.map dZ⟩)]) zb19 zb36), k + 1, by omega, rfl, by rw [hsn, List.map_append]; rfl⟩
    ·rw [if_neg hki] at hsn
     (repeat (first | refine gk fun K hK => ?_ | refine zs2 ?_)); refine zs132 ?_; (repeat (first | refine gk fun K hK => ?_ | refine zs2 ?_))
     refine zs48 ?_
     (repeat (first | refine gk fun K hK => ?_ | refine zs2 ?_)); refine zs117 ?_; (repeat (first | refine gk fun K hK => ?_ | refine zs2 ?_)); (refine gar ?_; refine zs4 ?_; refine zs4 ?_; refine zs76 ?_; refine aL_nil ?_); (repeat (first | refine gk fun K hK => ?_ | refine zs2 ?_))
     refine zs45 ?_
     (repeat (first | refine gk fun K hK => ?_ | refine zs2 ?_)); refine zs171 ?_; (repeat (first | refine gk fun K hK => ?_ | refine zs2 ?_)); refine zs119 ?_; (repeat (first | refine gk fun K hK => ?_ | refine zs2 ?_))
     simp only [nx, inB]
     exact ⟨m.length - (k + 1), _, by omega, (Sh_to (sl' := [(0, dW m), (3, zI (wid m)), (4, .own 4), (5, zI (i : Nat)), (6, .own 25), (7, zI ((k + 1 : Nat) : Int))]) (ow' := [(25, ⟨62, 2, V.map .nm ++ [.nm 0]⟩), (4, ⟨113, 1, G.map dZ⟩)]) zb19 zb36), k + 1, by omega, rfl, by rw [hsn, List.map_append]; rfl⟩
   ·obtain rfl : k = m.length := by omega
    rw [List.take_of_length_le (by omega)]
    clear hug
    (repeat (first | refine gk fun K hK => ?_ | refine zs2 ?_)); refine zs132 ?_; (repeat (first | refine gk fun K hK => ?_ | refine zs2 ?_))
    refine zs45 ?_
    (repeat (first | refine gk fun K hK => ?_ | refine zs2 ?_))
    refine aW_sh (Sh_shut' (k := 25) zb56 zb45 zb49) ?_
    refine zs125 ?_
    (repeat (first | refine gk fun K hK => ?_ | refine zs2 ?_))
    refine zs119 ?_
    simp only [nx, inB]
    exact ⟨m.length - (i + 1), _, by omega, (Sh_to (sl' := [(0, dW m), (3, zI (wid m)), (4, .own 4), (5, zI ((i + 1 : Nat) : Int))]) (ow' := [(4, ⟨113, 1, G.map dZ ++ [dZ (l ++ u)]⟩)]) zb19 zb36), i + 1, by omega, rfl, by rw [hxs, List.map_append]; rfl⟩
  ·obtain rfl : i = m.length := by omega
   rw [List.take_of_length_le (by rw [extM_len]; exact Nat.le_refl _)]
   (repeat (first | refine gk fun K hK => ?_ | refine zs2 ?_)); refine zs132 ?_; (repeat (first | refine gk fun K hK => ?_ | refine zs2 ?_))
   refine zs45 ?_
   (repeat (first | refine gk fun K hK => ?_ | refine zs2 ?_))
   refine aW_sh (Sh_shut' (k := 4) zb56 zb45 zb49) ?_
   (refine gar ?_; refine zs4 ?_; refine zs4 ?_; refine zs73 ?_; refine zs6 ?_; refine aL_nil ?_)
   (repeat (first | refine gk fun K hK => ?_ | refine zs2 ?_))
   refine zs113 ?_
   (repeat (first | refine gk fun K hK => ?_ | refine zs2 ?_))
   refine zs117 ?_
   (repeat (first | refine gk fun K hK => ?_ | refine zs2 ?_))
   refine aW_sh (Sh_nil' (t := 10) (k := 10) (T := 113) (wd := 1) zb59 rfl rfl zb41) ?_
   (refine aW_sh (Sh_to (sl' := [(0, dW m), (3, zI (wid m)), (9, dW H), (10, .own 10), (11, zI 0)]) (ow' := [(10, ⟨113, 1, []⟩)]) zb19 zb36) ?_)
   refine aW_loop (fun q s => ∃ k, k ≤ m.length ∧ q = m.length - k ∧ s = ⟨[(0, dW m), (3, zI (wid m)), (9, dW H), (10, .own 10), (11, zI (k : Nat))], [(10, ⟨113, 1, (kO (wid m) r H k).map dZ⟩)]⟩) (m := m.length) ⟨0, Nat.zero_le _, rfl, by simp [kO]⟩ fun q s hs => ?_
   obtain ⟨k, hk, rfl, rfl⟩ := hs
   by_cases hkm : k < m.length
   ·obtain ⟨l, hl⟩ := get_some (show k < H.length by omega)
    have hll := hHR l (List.mem_of_getElem? hl)
    have hz := hZ k l hl
    have FI := hFi k l hl
    have hsn := kO_snoc (w := wid m) (r := r) hl
    have hkl := kO_len (wid m) r H k
    obtain ⟨G, hG⟩ : ∃ G, G = kO (wid m) r H k := ⟨_, rfl⟩
    rw [← hG] at hsn hkl
    rw [← hG]
    clear hG hZ hFi
    have eT : (l.map D.nm).take (wid m) = (l.take (wid m)).map .nm := List.map_take.symm
    have eD : D.ls 2 ((l.map D.nm).drop (wid m)) = dZ (l.drop (wid m)) := by show _ = D.ls 2 ((l.drop (wid m)).map .nm); rw [List.map_drop]
    by_cases hkr : k < r
    ·rw [if_pos hkr] at hsn
     rw [decide_eq_true hkr] at hz
     rw [fil_one_n hz] at FI
     have FI' : Fn Tryz.prog 114 [.ls 1 [.ls 2 ((l.map .nm).take (wid m))]] (dW [l.take (wid m)]) := by rw [eT]; exact FI
     (repeat (first | refine gk fun K hK => ?_ | refine zs2 ?_)); refine zs132 ?_; (repeat (first | refine gk fun K hK => ?_ | refine zs2 ?_))
     refine zs48 ?_
     (repeat (first | refine gk fun K hK => ?_ | refine zs2 ?_)); refine zs172 ?_; (repeat (first | refine gk fun K hK => ?_ | refine zs2 ?_))
     refine zs45 ?_
     (repeat (first | refine gk fun K hK => ?_ | refine zs2 ?_)); refine zs119 ?_; (repeat (first | refine gk fun K hK => ?_ | refine zs2 ?_))
     simp only [nx, inB]
     exact ⟨m.length - (k + 1), _, by omega, (Sh_to (sl' := [(0, dW m), (3, zI (wid m)), (9, dW H), (10, .own 10), (11, zI ((k + 1 : Nat) : Int))]) (ow' := [(10, ⟨113, 1, G.map dZ⟩)]) zb19 zb36), k + 1, by omega, rfl, by rw [hsn]⟩
    ·rw [if_neg hkr] at hsn
     rw [decide_eq_false hkr] at hz
     rw [fil_one_z hz] at FI
     have FI' : Fn Tryz.prog 114 [.ls 1 [.ls 2 ((l.map .nm).take (wid m))]] (dW []) := by rw [eT]; exact FI
     (repeat (first | refine gk fun K hK => ?_ | refine zs2 ?_)); refine zs132 ?_; (repeat (first | refine gk fun K hK => ?_ | refine zs2 ?_))
     refine zs48 ?_
     (repeat (first | refine gk fun K hK => ?_ | refine zs2 ?_)); refine zs172 ?_; (repeat (first | refine gk fun K hK => ?_ | refine zs2 ?_))
     refine zs48 ?_
     (repeat (first | refine gk fun K hK => ?_ | refine zs2 ?_)); (refine gar ?_; refine zs4 ?_; refine zs4 ?_; refine zs4 ?_; refine zs67 ?_; refine zs23 ?_; refine zs4 ?_; (refine aL1 rfl rfl rfl (by (apply d_slice_from; (focus (exact rfl)); (focus ((apply op_b; (conv => lhs; whnf); (first | done | exact rfl)))); (focus ((apply op_b; (conv => lhs; whnf); (first | done | exact rfl)))); (focus (kernel_rfl)); (focus (kernel_rfl)); (focus (first | exact Int.toNat_natCast _ | exact rfl)); (focus (first | omega | (simp; omega))))) ?_); refine zs50 ?_; refine zs111 ?_; refine zs6 ?_; refine aL_nil ?_); (repeat (first | refine gk fun K hK => ?_ | refine zs2 ?_)); refine zs119 ?_; (repeat (first | refine gk fun K hK => ?_ | refine zs2 ?_))
     simp only [nx, inB]
     exact ⟨m.length - (k + 1), _, by omega, (Sh_to (sl' := [(0, dW m), (3, zI (wid m)), (9, dW H), (10, .own 10), (11, zI ((k + 1 : Nat) : Int))]) (ow' := [(10, ⟨113, 1, G.map dZ ++ [.ls 2 ((l.map .nm).drop (wid m))]⟩)]) zb19 zb36), k + 1, by omega, rfl, by rw [hsn, List.map_append, eD]; rfl⟩
   ·obtain rfl : k = m.length := by omega
    clear hZ hFi
    (repeat (first | refine gk fun K hK => ?_ | refine zs2 ?_)); refine zs132 ?_; (repeat (first | refine gk fun K hK => ?_ | refine zs2 ?_))
    refine zs45 ?_
    (repeat (first | refine gk fun K hK => ?_ | refine zs2 ?_))
    refine aW_sh (Sh_shut' (k := 10) zb56 zb45 zb49) ?_
    (refine gar ?_; refine zs4 ?_; refine zs4 ?_; refine zs5 ?_; refine zs73 ?_; refine zs6 ?_; refine aL_nil ?_)
    (repeat (first | refine gk fun K hK => ?_ | refine zs2 ?_))
    exact ⟨_, Sh.refl, .one (.tmp 2) _ rfl (.tmp 2 rfl)⟩
 clear hK2 hZ hFi EC E2
 by_cases h0 : m.length = 0
 ·have hw0 := h0w h0
  (repeat (first | refine gk fun K hK => ?_ | refine zs2 ?_)); (refine gar ?_; refine zs4 ?_; refine zs5 ?_; refine zs7 ?_; refine aL_nil ?_); (repeat (first | refine gk fun K hK => ?_ | refine zs2 ?_))
  refine zs45 ?_
  rw [show wid m = 0 from hw0] at TAIL
  (repeat (first | refine gk fun K hK => ?_ | refine zs2 ?_))
  exact (Sh_to (sl' := [(0, dW m), (3, zI ((0 : Nat) : Int))]) (ow' := []) zb19 zb36)
 ·obtain ⟨l, hl, hw⟩ := wid_get (m := m) (by omega)
  have hc0 : (0 : Int) = ((0 : Nat) : Int) := rfl
  (repeat (first | refine gk fun K hK => ?_ | refine zs2 ?_)); (refine gar ?_; refine zs4 ?_; refine zs5 ?_; refine zs7 ?_; refine aL_nil ?_); (repeat (first | refine gk fun K hK => ?_ | refine zs2 ?_))
  refine zs48 ?_
  rw [← hw] at TAIL
  (repeat (first | refine gk fun K hK => ?_ | refine zs2 ?_)); refine zs154 ?_; (repeat (first | refine gk fun K hK => ?_ | refine zs2 ?_))
  exact (Sh_to (sl' := [(0, dW m), (3, zI (l.length : Nat))]) (ow' := []) zb19 zb36)
end DW
end Go.Proofs.YtcgjmdpcplhanaaGreat
namespace Go.Proofs.YtcgjmdpcplhanaaGreat
open Go.RowKit
namespace DW
theorem KT_bd {m : Mx.Mat} (hc : chk m = 0) : Mx.Bd (2 ^ (50 * 11 ^ m.length)) (KT m).2 := by
 obtain ⟨k1, k2, k3, k4⟩ := chk_ok hc
 have hr : (HT m).1 ≤ m.length := HT_le k3
 have hHB : Mx.Bd (2 ^ (50 * 11 ^ (HT m).1)) (HT m).2 := Mx.red_bdr (n := wid m + m.length) (e := 50) (by omega) (wid m) 0 0 (extM m) (extM_rc k3) (Nat.zero_le _) (by simpa using extM_bd (chk_bd hc))
 have hAl : ((HermU m).drop (HT m).1).length = m.length - (HT m).1 := by rw [List.length_drop, HU_len k3]
 have hAr : Mx.Rc m.length ((HermU m).drop (HT m).1) := fun r hr => HU_rc k3 r (List.mem_of_mem_drop hr)
 have h1 := Mx.red_bdr (n := m.length) (e := 50 * 11 ^ (HT m).1) (Nat.le_trans (by omega : 6 ≤ 50 * 1) (Nat.mul_le_mul_left 50 (Nat.pow_pos (by omega)))) m.length 0 0 ((HermU m).drop (HT m).1) hAr (Nat.zero_le _) (by rw [Nat.pow_zero, Nat.mul_one]; exact bd_drop (r := (HT m).1) (dp_bd (n := wid m) hHB))
 have h2 := red_le (M := (HermU m).drop (HT m).1) m.length 0 hAr
 refine h1.mono (Nat.pow_le_pow_right (by omega) ?_)
 rw [Nat.mul_assoc, ← Nat.pow_add]
 exact Nat.mul_le_mul_left 50 (Nat.pow_le_pow_right (by omega) (by omega))
theorem KT_len {m : Mx.Mat} (hc : chk m = 0) : (KT m).2.length = m.length - (HT m).1 := by
 have k3 := (chk_ok hc).2.2.1
 have hAr : Mx.Rc m.length ((HermU m).drop (HT m).1) := fun r hr => HU_rc k3 r (List.mem_of_mem_drop hr)
 have := (Mx.red_re m.length 0 (0, (HermU m).drop (HT m).1) hAr).len
 rw [show (Mx.red m.length 0 (0, (HermU m).drop (HT m).1)).2 = (KT m).2 from rfl] at this
 rw [this, List.length_drop, HU_len k3]
theorem KT_rc {m : Mx.Mat} (hc : chk m = 0) : Mx.Rc m.length (KT m).2 := by
 have k3 := (chk_ok hc).2.2.1
 have hAr : Mx.Rc m.length ((HermU m).drop (HT m).1) := fun r hr => HU_rc k3 r (List.mem_of_mem_drop hr)
 exact (Mx.red_re m.length 0 (0, (HermU m).drop (HT m).1) hAr).rc hAr
set_option maxRecDepth 20000
set_option maxHeartbeats 2000000
theorem kernel_d (m : Mx.Mat) (hc : chk m = 0) (h5 : m.length ≤ 5) : Fn Tryz.prog 28 [dM m] (nrw (KT m).2) := by
 obtain ⟨k1, k2, k3, k4⟩ := chk_ok hc
 have hR := KT_rc hc
 have hl := KT_len hc
 have W := wide_d m (by omega) (fun l hl => by have := k3 l hl; omega) (fun l hl z hz => chk_i64 hc l hl z hz)
 have E := kernelof_d m hc h5
 have N := narrow_d (KT m).2 (by omega) (fun l hl => by have := hR l hl; omega) (fun l hl z hz => hd_bits (bd_mem (KT_bd hc) hl hz) (by have := wid_exp h5; omega))
 clear hc h5 k1 k2 k3 k4 hR hl
 generalize (KT m).2 = R at *
 unfold nrw at N ⊢
 split at N
 ·next h =>
  rw [if_pos h]
  refine fn_of Tryz.func28 zb95 rfl rfl rfl fun X0 => ?_
  simp only [initL]
  (repeat (first | refine gk fun K hK => ?_ | refine zs2 ?_)); refine zs159 ?_; (repeat (first | refine gk fun K hK => ?_ | refine zs2 ?_)); refine zs173 ?_; (repeat (first | refine gk fun K hK => ?_ | refine zs2 ?_))
  exact ⟨_, Sh.refl, .two (.tmp 2) (.tmp 3) _ _ rfl (.tmp 2 rfl) (.tmp 3 rfl)⟩
 ·next h =>
  rw [if_neg h]
  refine fn_of Tryz.func28 zb95 rfl rfl rfl fun X0 => ?_
  simp only [initL]
  (repeat (first | refine gk fun K hK => ?_ | refine zs2 ?_)); refine zs159 ?_; (repeat (first | refine gk fun K hK => ?_ | refine zs2 ?_)); refine zs173 ?_; (repeat (first | refine gk fun K hK => ?_ | refine zs2 ?_))
  exact ⟨_, Sh.refl, .two (.tmp 2) (.tmp 3) _ _ rfl (.tmp 2 rfl) (.tmp 3 rfl)⟩
end DW
end Go.Proofs.YtcgjmdpcplhanaaGreat
namespace Go.Proofs.YtcgjmdpcplhanaaGreat
namespace Mx
theorem at_tk {n : Nat} {M : Mat} {i j : Nat} (h : j < n) : at' (tk n M) i j = at' M i j := by rw [at_take, if_pos h]
theorem getD_take {n : Nat} (l : List Int) {j : Nat} (h : j < n) : (l.take n).getD j 0 = l.getD j 0 := by
 rw [List.getD_eq_getElem?_getD, List.getD_eq_getElem?_getD, List.getElem?_take, if_pos h]
theorem set_tk (n : Nat) (M : Mat) (i : Nat) (r : List Int) : (tk n M).set i (r.take n) = tk n (M.set i r) := by
 unfold tk; rw [List.map_set]
theorem len_tk (n : Nat) (M : Mat) : (tk n M).length = M.length := by simp [tk]
theorem swp_tk (n : Nat) (M : Mat) (i j : Nat) : swp (tk n M) i j = tk n (swp M i j) := by
 unfold swp; rw [tk_rw, tk_rw, set_tk, set_tk]
theorem elimRow_tk {n c : Nat} (h : c < n) (p a : List Int) : elimRow (p.take n) c (a.take n) = (elimRow p c a).take n := by
 unfold elimRow axpy
 rw [getD_take _ h, getD_take _ h, List.take_zipWith]
theorem neg_tk (n : Nat) (a : List Int) : neg (a.take n) = (neg a).take n := by unfold neg; rw [List.map_take]
theorem elimK_tk {n c : Nat} (h : c < n) (r s : Nat) (M : Mat) : ∀ k, elimK r c s (tk n M) k = tk n (elimK r c s M k)
 | 0 => rfl
 | k + 1 => by
  unfold elimK
  rw [elimK_tk h r s M k, tk_rw, tk_rw, elimRow_tk h, set_tk]
theorem scan_tk {n c : Nat} (h : c < n) (r : Nat) (M : Mat) : ∀ k, scan c r (tk n M) k = scan c r M k
 | 0 => rfl
 | k + 1 => by
  unfold scan
  simp only [scan_tk h r M k, at_tk h]
theorem pick_tk {n c : Nat} (h : c < n) (r : Nat) (M : Mat) : pick r c (tk n M) = pick r c M := by
 unfold pick; rw [len_tk, scan_tk h]
theorem sumK_tk {n c : Nat} (h : c < n) (r : Nat) (M : Mat) : ∀ k, sumK r c (tk n M) k = sumK r c M k
 | 0 => rfl
 | k + 1 => by
  unfold sumK
  rw [sumK_tk h r M k, at_tk h]
theorem elim_tk {n c : Nat} (h : c < n) (r : Nat) (M : Mat) : elim r c (tk n M) = tk n (elim r c M) := by
 unfold elim; rw [len_tk, elimK_tk h]
theorem colN_tk {n c : Nat} (h : c < n) (r : Nat) : ∀ (f : Nat) (M : Mat), colN r c f (tk n M) = tk n (colN r c f M)
 | 0, _ => rfl
 | f + 1, M => by
  unfold colN
  rw [pick_tk h]
  cases (pick r c M).1 with
  | none => rfl
  | some t =>
   simp only
   rw [swp_tk, elim_tk h, colN_tk h r f]
   split <;> rfl
theorem colF_tk {n c : Nat} (h : c < n) (r : Nat) (M : Mat) : colF r c (tk n M) = tk n (colF r c M) := by
 unfold colF meas; rw [len_tk, sumK_tk h, colN_tk h]
theorem sgnd_tk {n c : Nat} (h : c < n) (r : Nat) (M : Mat) : sgnd r c (tk n M) = tk n (sgnd r c M) := by
 unfold sgnd
 rw [at_tk h, tk_rw, neg_tk, set_tk]
 split <;> rfl
theorem above_tk {n c : Nat} (h : c < n) (r : Nat) (M : Mat) : above r c (tk n M) = tk n (above r c M) := elimK_tk h r 0 M r
theorem step_tk {n c : Nat} (h : c < n) (r : Nat) (M : Mat) : step r c (tk n M) = ((step r c M).1, tk n (step r c M).2) := by
 unfold step
 simp only []
 rw [colF_tk h, at_tk h, sgnd_tk h, above_tk h]
 split <;> rfl
theorem red_tk {n : Nat} : ∀ (k c r : Nat) (M : Mat), c + k ≤ n → red k c (r, tk n M) = ((red k c (r, M)).1, tk n (red k c (r, M)).2)
 | 0, _, _, _, _ => rfl
 | k + 1, c, r, M, h => by
  unfold red
  simp only [len_tk]
  split
  ·rw [step_tk (by omega)]
   exact red_tk k (c + 1) (step r c M).1 (step r c M).2 (by omega)
  ·rfl
theorem tk_ext {m : Mat} (h : Rc (wid m) m) : tk (wid m) (extM m) = m := by
 apply List.ext_getElem?
 intro i
 unfold tk
 rw [List.getElem?_map]
 by_cases hi : i < m.length
 ·rw [extM_get hi, rw_get hi]
  simp only [Option.map_some, Option.some.injEq]
  rw [List.take_left' (h.rw hi)]
 ·rw [List.getElem?_eq_none (by rw [extM_len]; omega), List.getElem?_eq_none (by omega)]; rfl
theorem red_ext {m : Mat} (h : Rc (wid m) m) : red (wid m) 0 (0, m) = ((HT m).1, HermM m) := by
 have := red_tk (n := wid m) (wid m) 0 0 (extM m) (by omega)
 rw [tk_ext h] at this
 exact this
end Mx
end Go.Proofs.YtcgjmdpcplhanaaGreat
namespace Go.Proofs.YtcgjmdpcplhanaaGreat
open Go.RowKit Go.BigFrame
attribute [local go_sem ↓] Go.wp_at_zero Go.wp_at_succ
def lrk (m : Mx.Mat) : Int := if chk m = 0 then ((HT m).1 : Nat) else 0
set_option maxRecDepth 10000 in
set_option maxHeartbeats 4000000 in
theorem lrank_any (m : Mx.Mat) (v : Value) (hm : m.length ≤ 1000000) (hr : ∀ r ∈ m, r.length ≤ 1000000) (hs : chk m = 0 → wid m ≤ 10) (w : World) (h : ZM w v m) :
    Calls Tryz.prog 29 #[v] w fun e w' => e = .returned (.tuple #[.int .i64 (lrk m), .int .i64 (chk m)]) ∧ Below w.heap.size w w' := by
  have CK := Lib.hid (fun w h => check_any m v (by omega) (fun r h => Nat.le_trans (hr r h) (by omega)) w h)
  have H := Lib.hid h
  by_cases hc : chk m = 0
  · have hn := hs hc
    have hk := chk_ok hc
    have OF := Lib.hid (fun w h => wof_any m (wid m) v (by omega) (by omega) hk.2.2.1 (chk_i64 hc) w h)
    have h11 : (11 : Nat) ^ wid m ≤ 11 ^ 10 := Nat.pow_le_pow_right (by omega) hn
    have HE := Lib.hid (fun v w h => hermite_any m (wid m) 50 v (by omega) (by omega) (by omega) (by omega) (chk_bd hc) w h)
    have hre := Mx.red_ext hk.2.2.1
    have hle : (HT m).1 ≤ (HermM m).length := by
      have := red_le (wid m) 0 hk.2.2.1
      rw [hre] at this
      unfold HermM tk
      rw [List.length_map, HT_len hk.2.2.1]; exact this
    have hln : ((Mx.red (wid m) 0 (0, m)).2.take (Mx.red (wid m) 0 (0, m)).1).length = (HT m).1 := by
      rw [hre]; show ((HermM m).take (HT m).1).length = (HT m).1; rw [List.length_take]; omega
    have hE : lrk m = ((HT m).1 : Nat) := if_pos hc
    rw [hc] at CK
    rw [hE, hc]
    have HLN := Lib.hid hln
    have hrb : (HT m).1 ≤ 64 := by
      have h1 := red_le (wid m) 0 hk.2.2.1
      rw [hre] at h1
      have := hk.1
      exact Nat.le_trans h1 this
    clear h hs hr hm hk hn hc hre hle hln hE h11
    generalize (Mx.red (wid m) 0 (0, m)).2.take (Mx.red (wid m) 0 (0, m)).1 = Z at HE HLN
    generalize (HT m).1 = r at HLN hrb ⊢
    go_enter Tryz.func29, Tryz.ntmps29
    go_wp2_with (first
        | (go_at_call 40; go_loud ((with_reducible refine (CK.out _ H.out).mono ?_); rintro e w1 ⟨rfl, hb1⟩; have HB1 := Lib.hid hb1; clear hb1))
        | (go_at_call 72; go_loud ((with_reducible refine (OF.out _ (H.out.below HB1.out (Nat.le_refl _))).mono ?_); rintro e w2 ⟨⟨gm, gs, cs, cp, rfl, hcp, hmb⟩, hb2⟩; have HM2 := Lib.hid (hmb.mr hcp); have HB2 := Lib.hid (HB1.out.trans (hb2.mono HB1.out.size)); clear hb2 hmb))
        | (go_at_call 85; go_loud ((with_reducible refine (HE.out _ _ HM2.out).mono ?_); rintro e w3 ⟨⟨v3, rfl, a3, c3, rfl, _, _, _⟩, hb3⟩; rw [HLN.out]; have HB3 := Lib.hid (HB2.out.trans (hb3.mono HB2.out.size)); clear hb3)))
    refine bodyPost_ret (v := .tuple #[.int .i64 ((r : Int)), .int .i64 (0)]) (by simp [results, Tryz.results29, go_sem]) rfl ⟨rfl, HB3.out⟩
  · have hc1 : ¬ chk m = 0 := hc
    have hE : lrk m = 0 := if_neg hc
    rw [hE]
    clear h hs hr hm hc hE
    obtain ⟨R, hR⟩ : ∃ R, R = chk m := ⟨_, rfl⟩
    rw [← hR] at CK hc1 ⊢
    clear hR
    go_enter Tryz.func29, Tryz.ntmps29
    go_wp2_with (go_at_call 40; (with_reducible refine (CK.out _ H.out).mono ?_); rintro e w1 ⟨rfl, hb1⟩; have HB1 := Lib.hid hb1; clear hb1)
    refine bodyPost_ret (v := .tuple #[.int .i64 (0), .int .i64 R]) (by simp [results, Tryz.results29, go_sem]) rfl ⟨rfl, HB1.out⟩
end Go.Proofs.YtcgjmdpcplhanaaGreat
namespace Go.Proofs.YtcgjmdpcplhanaaGreat
namespace Mx
theorem rw_app_r (P M : Mat) (i : Nat) : rw (P ++ M) (P.length + i) = rw M i := by
 unfold rw
 rw [List.getD_eq_getElem?_getD, List.getD_eq_getElem?_getD, List.getElem?_append_right (by omega), Nat.add_sub_cancel_left]
theorem set_app_r (P M : Mat) (i : Nat) (r : List Int) : (P ++ M).set (P.length + i) r = P ++ M.set i r := by
 rw [List.set_append_right _ _ (by omega), Nat.add_sub_cancel_left]
theorem RE.app {A B : Mat} (P : Mat) (h : RE A B) : RE (P ++ A) (P ++ B) := by
 induction h with
 | refl => exact .refl _
 | add M i j q hi hj hij =>
  have := RE.add (P ++ M) (P.length + i) (P.length + j) q zb94 zb94 (by omega)
  rwa [rw_app_r, rw_app_r, set_app_r] at this
 | neg M i hi =>
  have := RE.neg (P ++ M) (P.length + i) zb94
  rwa [rw_app_r, set_app_r] at this
 | swp M i j hi hj =>
  have := RE.swp (P ++ M) (P.length + i) (P.length + j) zb94 zb94
  unfold Mx.swp at this
  rwa [rw_app_r, rw_app_r, set_app_r, set_app_r] at this
 | trans _ _ h1 h2 => exact h1.trans h2
theorem D_zrow {n i : Nat} (hi : i < n) (f : Nat → Nat → Int) (h : ∀ l, l < n → f i l = 0) : D n f = 0 := by
 have h1 := D_lin 0 0 n f i (f i) (f i) hi
 rw [D_congr n _ f fun k j hk hj => by
  unfold upd
  split
  ·next e => rw [e, h j hj]; show 0 * f i j + 0 * f i j = 0; omega
  ·rfl] at h1
 rw [h1]; omega
theorem at_rb (M : Mat) (i j : Nat) : rb 0 M i j = at' M i j := by unfold rb; rw [Nat.zero_add]
theorem HermU_det {m : Mat} (h : Rc (wid m) m) : D m.length (at' (HermU m)) = 1 ∨ D m.length (at' (HermU m)) = -1 := by
 have h1 := RE.det (wid m) (red_re (wid m) 0 (0, extM m) (extM_rc h)) (extM_rc h)
 rw [show red (wid m) 0 (0, extM m) = HT m from rfl] at h1
 simp only [extM_len] at h1
 have e1 : D m.length (rb (wid m) (extM m)) = 1 := by
  rw [← D_one m.length]
  refine D_congr _ _ _ fun i j hi hj => ?_
  unfold rb at'
  rw [show rw (extM m) i = rw m i ++ unitR m.length i from by unfold rw; rw [List.getD_eq_getElem?_getD, extM_get hi]; rfl]
  rw [List.getD_eq_getElem?_getD, List.getElem?_append_right (by rw [h.rw hi]; omega), h.rw hi, Nat.add_sub_cancel_left]
  unfold unitR
  by_cases e : i = j
  ·subst e
   rw [if_pos rfl, List.getElem?_set_self (by simpa using hi)]; rfl
  ·rw [if_neg e, List.getElem?_set_ne e, List.getElem?_replicate, if_pos hj]; rfl
 have e2 : D m.length (rb (wid m) (HT m).2) = D m.length (at' (HermU m)) := D_congr _ _ _ fun i j _ _ => by
  unfold rb HermU
  rw [at_drop]
 rw [e1, e2] at h1
 exact h1
theorem KT_full {m : Mat} (h : Rc (wid m) m) : (KT m).1 = (KT m).2.length ∧ (KT m).2.length = m.length - (HT m).1 := by
 have hUr := HU_rc h
 have hUl := HU_len h
 have hr : (HT m).1 ≤ m.length := HT_le h
 have hAr : Rc m.length ((HermU m).drop (HT m).1) := fun r hr => hUr r (List.mem_of_mem_drop hr)
 have hre : RE ((HermU m).drop (HT m).1) (KT m).2 := red_re m.length 0 (0, (HermU m).drop (HT m).1) hAr
 have hKl : (KT m).2.length = m.length - (HT m).1 := by rw [hre.len, List.length_drop, hUl]
 refine ⟨?_, hKl⟩
 obtain ⟨pv, he⟩ := red_ech m.length 0 (0, (HermU m).drop (HT m).1) id hAr (ech_start _)
 rw [Nat.zero_add, show red m.length 0 (0, (HermU m).drop (HT m).1) = KT m from rfl] at he
 refine Nat.le_antisymm he.le (Nat.le_of_not_lt fun hlt => ?_)
 have happ := RE.app ((HermU m).take (HT m).1) hre
 rw [List.take_append_drop] at happ
 have hd := RE.det 0 happ hUr
 rw [hUl] at hd
 have hz : D m.length (rb 0 ((HermU m).take (HT m).1 ++ (KT m).2)) = 0 := by
  refine D_zrow (i := (HT m).1 + (KT m).1) (by omega) _ fun l hl => ?_
  rw [at_rb]
  unfold at'
  have hPl : ((HermU m).take (HT m).1).length = (HT m).1 := by rw [List.length_take]; omega
  have := rw_app_r ((HermU m).take (HT m).1) (KT m).2 (KT m).1
  rw [hPl] at this
  rw [this]
  exact he.zb (KT m).1 (Nat.le_refl _) l hl
 have hu := HermU_det h
 have e3 : D m.length (rb 0 (HermU m)) = D m.length (at' (HermU m)) := D_congr _ _ _ fun i j _ _ => at_rb _ i j
 rw [hz, e3] at hd
 omega
theorem KerM_all {m : Mat} (h : Rc (wid m) m) : KerM m = (KT m).2 := by
 unfold KerM; rw [(KT_full h).1, List.take_length]
end Mx
end Go.Proofs.YtcgjmdpcplhanaaGreat
