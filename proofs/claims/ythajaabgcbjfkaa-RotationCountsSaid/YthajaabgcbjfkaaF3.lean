/- Contract: the program's count. -/
import Derived.Test.YthajaabgcbjfkaaF1
import Derived.Test.YthajaabgcbjfkaaF2
import Derived.BigQuiet
namespace Go.Proofs.Ythajaabgcbjfkaa
open Go.RowKit Go.BigFrame Go.Maps
attribute [local go_sem ↓] Go.wp_at_zero Go.wp_at_succ

set_option maxRecDepth 10000 in
set_option maxHeartbeats 2000000 in
theorem count_one (x : Qt) (B g o cap : Nat) (w : World) (hm : MapI B w) :
    Calls Try.prog 108 #[.map (some B), .agg #[.int .i64 x.w, .int .i64 x.x, .int .i64 x.y, .int .i64 x.z], .slice (some ⟨g, o, none⟩) 1 cap] w fun e w' => e = .returned (.int .i64 1) ∧ CM B w w' := by
  have HM := Lib.hid hm
  clear hm
  go_enter Try.func108, Try.ntmps108
  go_wp2_with fail
  go_ret
  have hb : Below w.heap.size w (w.alloc (.cells #[.int .i64 x.w, .int .i64 x.x, .int .i64 x.y, .int .i64 x.z] 96)) := by (repeat (first | with_reducible assumption | with_reducible exact Below.refl _ _ | with_reducible refine Below.drewN ?_ _ | with_reducible refine Below.drew ?_ | with_reducible refine Below.alloc ?_ (by first | omega | (simp; done) | (simp; omega)) _ | with_reducible refine Below.setCell ?_ (by first | omega | (simp; done) | (simp; omega)) _ | with_reducible refine below_more _ _ ?_ (by first | omega | (simp; done) | (simp; omega))))
  exact ⟨rfl, grown_of_below hb, HM.out.below hb⟩
/-- Sums of the first counts. -/
def sumR (R : Nat → Int) : Nat → Int
  | 0 => 0
  | k + 1 => sumR R k + 24 * R k
theorem sumR_bd {R : Nat → Int} {n : Nat} (h : ∀ k, k < n → 0 ≤ R k ∧ R k ≤ 1358954496) : ∀ k, k ≤ n → 0 ≤ sumR R k ∧ sumR R k ≤ 32614907904 * k
  | 0, _ => ⟨Int.le_refl 0, Int.le_refl _⟩
  | k + 1, hk => by
    have h1 := sumR_bd h k (by omega)
    have h2 := h k (by omega)
    show 0 ≤ sumR R k + 24 * R k ∧ sumR R k + 24 * R k ≤ 32614907904 * ((k + 1 : Nat) : Int)
    omega
section
variable (x : Qt) (p : Nat) (c : Int) (B n g o cap : Nat) (w : World) (hn : 1 ≤ n ∧ n ≤ 6) (hcap : n + 1 ≤ cap) (hp : 2 ≤ p ∧ p ≤ 7) (hc : 1 ≤ c ∧ c ≤ 4000000) (hm : MapI B w) (h0 : w.cell? ⟨g, o, none⟩ = some (.int .i64 ((p : Int))))
  (cc : ∀ w, Calls Try.prog 86 #[.agg #[.int .i64 x.w, .int .i64 x.x, .int .i64 x.y, .int .i64 x.z]] w fun e w' => e = .returned (.int .i64 c) ∧ Below w.heap.size w w')
include hn hcap hp hc hm h0 cc
set_option maxRecDepth 10000 in
set_option maxHeartbeats 8000000 in
theorem count_a (hcp : ¬ c % (p : Int) = 0) (r : Int) (hr : 0 ≤ r ∧ r ≤ 260919263232) (N S T : Qt)
    (cnum : ∀ w, Calls Try.prog 106 #[.int .i64 ((p : Int))] w fun e w' => e = .returned (.agg #[.int .i64 N.w, .int .i64 N.x, .int .i64 N.y, .int .i64 N.z]) ∧ Below w.heap.size w w')
    (ccom : ∀ w, Calls Try.prog 76 #[.agg #[.int .i64 x.w, .int .i64 x.x, .int .i64 x.y, .int .i64 x.z], .agg #[.int .i64 N.w, .int .i64 N.x, .int .i64 N.y, .int .i64 N.z]] w fun e w' => e = .returned (.agg #[.int .i64 S.w, .int .i64 S.x, .int .i64 S.y, .int .i64 S.z]) ∧ Below w.heap.size w w')
    (cbef : ∀ w, Calls Try.prog 107 #[.agg #[.int .i64 x.w, .int .i64 x.x, .int .i64 x.y, .int .i64 x.z], .agg #[.int .i64 S.w, .int .i64 S.x, .int .i64 S.y, .int .i64 S.z]] w fun e w' => e = .returned (.agg #[.int .i64 T.w, .int .i64 T.x, .int .i64 T.y, .int .i64 T.z]) ∧ Below w.heap.size w w')
    (crec : ∀ W, CM B w W → Calls Try.prog 108 #[.map (some B), .agg #[.int .i64 T.w, .int .i64 T.x, .int .i64 T.y, .int .i64 T.z], .slice (some ⟨g, o + 1, none⟩) n (cap - 1)] W fun e w' => e = .returned (.int .i64 r) ∧ CM B W w') :
    Calls Try.prog 108 #[.map (some B), .agg #[.int .i64 x.w, .int .i64 x.x, .int .i64 x.y, .int .i64 x.z], .slice (some ⟨g, o, none⟩) (n + 1) cap] w fun e w' => e = .returned (.int .i64 (24 * r)) ∧ CM B w w' := by
  have HM := Lib.hid hm; have CC := Lib.hid cc; have CNUM := Lib.hid cnum; have CCOM := Lib.hid ccom; have CBEF := Lib.hid cbef; have CREC : Hid _ := crec
  have hbw : B < w.heap.size := hm.lt
  clear hm cc cnum ccom cbef crec
  have t0 : (c % (p : Int) != 0) = true := by simpa using hcp
  have p0 : ¬ (p : Int) = 0 := by omega
  have pp : (1 : Int) ≤ (p : Int) ∧ (p : Int) ≤ 7 := by omega
  have n1 : ((n : Int) + 1 == 1) = false := by simp; omega
  have hgl : g < w.heap.size := World.block_lt_of_cell? w ⟨g, o, none⟩ h0
  have n2 : ¬ n = 0 := by omega
  have c1 : 1 ≤ cap := by omega
  have c2 : 1 < cap := by omega
  have c3 : ¬ cap = 1 := by omega
  have c4 : ¬ 1 = cap := by omega
  have c5 : (1 : Int) ≤ (n : Int) + 1 := by omega
  have c6 : (n : Int) + 1 ≤ (cap : Int) := by omega
  clear hcp
  go_enter Try.func108, Try.ntmps108
  go_wp2_with (first | (go_at_call 86; (with_reducible refine (CC.out _).mono ?_); rintro e W0 ⟨rfl, hb0⟩; have HB0 := Lib.hid hb0; clear hb0))
  have hb4 := HB0.out
  have hB0 : Below w.heap.size w W0 := Below.trans (by (repeat (first | with_reducible assumption | with_reducible exact Below.refl _ _ | with_reducible refine Below.drewN ?_ _ | with_reducible refine Below.drew ?_ | with_reducible refine Below.alloc ?_ (by first | omega | (simp; done) | (simp; omega)) _ | with_reducible refine Below.setCell ?_ (by first | omega | (simp; done) | (simp; omega)) _ | with_reducible refine below_more _ _ ?_ (by first | omega | (simp; done) | (simp; omega))))) (hb4.mono (by simp))
  have h1 : W0.cell? ⟨w.heap.size, 0, none⟩ = some (.int .i64 x.w) := (hb4.cell (by simp)).trans (by go_simp)
  have h2 : W0.cell? ⟨w.heap.size, 1, none⟩ = some (.int .i64 x.x) := (hb4.cell (by simp)).trans (by go_simp)
  have h3 : W0.cell? ⟨w.heap.size, 2, none⟩ = some (.int .i64 x.y) := (hb4.cell (by simp)).trans (by go_simp)
  have h4 : W0.cell? ⟨w.heap.size, 3, none⟩ = some (.int .i64 x.z) := (hb4.cell (by simp)).trans (by go_simp)
  have hm0 := HM.out.below hB0
  have HC0 : Hid (CM B w W0) := ⟨grown_of_below hB0, hm0⟩
  have HM0 := Lib.hid hm0
  have hne : w.heap.size ≠ B := by omega
  clear hb4 HB0 hB0 hm0 CC HM h0
  refine wp_region_quiet (C := CM B W0) (by kernel_rfl) (by kernel_rfl) (CM.start HM0.out) ?_
  simp only []
  (repeat (refine wpQuiet_step (fun K hK => ?_); go_simp; (try go_bits); apply Exists.intro; refine ⟨fun w' hw' => ?_, hK _ ?_⟩; (focus (first | with_reducible exact rfl | (go_at_call 106; with_reducible exact CM.call hw' (CNUM.out _)) | (go_at_call 76; with_reducible exact CM.call hw' (CCOM.out _)) | (go_at_call 107; with_reducible exact CM.call hw' (CBEF.out _)) | (go_at_call 108; with_reducible exact CM.count hw' (CREC.out _ (HC0.out.trans hw'))) | (have y1 := hw'.cell h1 hne; have y2 := hw'.cell h2 hne; have y3 := hw'.cell h3 hne; have y4 := hw'.cell h4 hne; go_simp; exact rfl))); clear hK K))
  refine wpQuiet_nil ?_
  intro w2 hw2
  have H2 := Lib.hid hw2
  clear hw2
  go_wp2_with fail
  go_ret
  exact ⟨rfl, HC0.out.trans H2.out⟩
set_option maxRecDepth 10000 in
set_option maxHeartbeats 16000000 in
theorem count_b (hcp : c % (p : Int) = 0) (L : List Qt) (hL : L = ofNormC p) (hL1 : 1 ≤ L.length) (hL8 : L.length ≤ 8) (T : Nat → Qt) (R : Nat → Int) (hR : ∀ k, k < L.length → 0 ≤ R k ∧ R k ≤ 1358954496)
    (cofn : ∀ w, Calls Try.prog 74 #[.int .i64 ((p : Int))] w fun e w' => ∃ v, e = .returned v ∧ OwnH w' w.heap.size v L ∧ Below w.heap.size w w')
    (cbef : ∀ (k : Nat) (d : Qt), L[k]? = some d → ∀ w, Calls Try.prog 107 #[.agg #[.int .i64 x.w, .int .i64 x.x, .int .i64 x.y, .int .i64 x.z], .agg #[.int .i64 d.w, .int .i64 d.x, .int .i64 d.y, .int .i64 d.z]] w fun e w' => e = .returned (.agg #[.int .i64 (T k).w, .int .i64 (T k).x, .int .i64 (T k).y, .int .i64 (T k).z]) ∧ Below w.heap.size w w')
    (crec : ∀ k, k < L.length → ∀ W, CM B w W → Calls Try.prog 108 #[.map (some B), .agg #[.int .i64 (T k).w, .int .i64 (T k).x, .int .i64 (T k).y, .int .i64 (T k).z], .slice (some ⟨g, o + 1, none⟩) n (cap - 1)] W fun e w' => e = .returned (.int .i64 (R k)) ∧ CM B W w') :
    Calls Try.prog 108 #[.map (some B), .agg #[.int .i64 x.w, .int .i64 x.x, .int .i64 x.y, .int .i64 x.z], .slice (some ⟨g, o, none⟩) (n + 1) cap] w fun e w' => e = .returned (.int .i64 (sumR R L.length)) ∧ CM B w w' := by
  have HM := Lib.hid hm; have CC := Lib.hid cc; have COFN := Lib.hid cofn; have CBEF : Hid _ := cbef; have CREC : Hid _ := crec; have HL := Lib.hid hL; have HR : Hid _ := hR
  have SB : Hid _ := sumR_bd hR
  have hbw : B < w.heap.size := hm.lt
  clear hm cc cofn cbef crec hL hR
  have t0 : (c % (p : Int) != 0) = false := by simpa using hcp
  have p0 : ¬ (p : Int) = 0 := by omega
  have pp : (1 : Int) ≤ (p : Int) ∧ (p : Int) ≤ 7 := by omega
  have n1 : ((n : Int) + 1 == 1) = false := by simp; omega
  have hgl : g < w.heap.size := World.block_lt_of_cell? w ⟨g, o, none⟩ h0
  have n2 : ¬ n = 0 := by omega
  have c1 : 1 ≤ cap := by omega
  have c2 : 1 < cap := by omega
  have c3 : ¬ cap = 1 := by omega
  have c4 : ¬ 1 = cap := by omega
  have c5 : (1 : Int) ≤ (n : Int) + 1 := by omega
  have c6 : (n : Int) + 1 ≤ (cap : Int) := by omega
  obtain ⟨len, hlen⟩ : ∃ len, len = L.length := ⟨_, rfl⟩
  rw [← hlen] at hL1 hL8 ⊢
  have HLEN := Lib.hid hlen
  clear hcp hlen
  have COF : Hid (∀ w, Calls Try.prog 74 #[.int .i64 ((p : Int))] w fun e w' => ∃ gr cr, e = .returned (.slice (some ⟨gr, 0, none⟩) len cr) ∧ w.heap.size ≤ gr ∧ gr < w'.heap.size ∧ (∀ k q, L[k]? = some q → H4 w' gr k q) ∧ Below w.heap.size w w') := fun w => (COFN.out w).mono (by
    rintro e w' ⟨v, rfl, hown, hb⟩
    obtain ⟨g, cap, rfl, h1, h2, h3⟩ := hown.slice (fun h => by
      have h5 := HLEN.out
      rw [h] at h5
      simp at h5
      omega)
    exact ⟨g, cap, by rw [HLEN.out], h1, h2, fun k q hq => OwnH.h4 (l := L) h3 hq, hb⟩)
  clear COFN
  go_enter Try.func108, Try.ntmps108
  go_upto_region 6 with (first | (go_at_call 86; (with_reducible refine (CC.out _).mono ?_); rintro e W0 ⟨rfl, hb0⟩; have HB0 := Lib.hid hb0; clear hb0))
  have hb4 := HB0.out
  have hB0 : Below w.heap.size w W0 := Below.trans (by (repeat (first | with_reducible assumption | with_reducible exact Below.refl _ _ | with_reducible refine Below.drewN ?_ _ | with_reducible refine Below.drew ?_ | with_reducible refine Below.alloc ?_ (by first | omega | (simp; done) | (simp; omega)) _ | with_reducible refine Below.setCell ?_ (by first | omega | (simp; done) | (simp; omega)) _ | with_reducible refine below_more _ _ ?_ (by first | omega | (simp; done) | (simp; omega))))) (hb4.mono (by simp))
  have h1 : W0.cell? ⟨w.heap.size, 0, none⟩ = some (.int .i64 x.w) := (hb4.cell (by simp)).trans (by go_simp)
  have h2 : W0.cell? ⟨w.heap.size, 1, none⟩ = some (.int .i64 x.x) := (hb4.cell (by simp)).trans (by go_simp)
  have h3 : W0.cell? ⟨w.heap.size, 2, none⟩ = some (.int .i64 x.y) := (hb4.cell (by simp)).trans (by go_simp)
  have h4 : W0.cell? ⟨w.heap.size, 3, none⟩ = some (.int .i64 x.z) := (hb4.cell (by simp)).trans (by go_simp)
  have hm0 := HM.out.below hB0
  have HC0 : Hid (CM B w W0) := ⟨grown_of_below hB0, hm0⟩
  have HM0 := Lib.hid hm0
  have hne : w.heap.size ≠ B := by omega
  obtain ⟨v, hrun, hv⟩ := hm0.look p (by omega)
  rw [← HL.out] at hv
  have HX : Hid (W0.cell? ⟨w.heap.size, 0, none⟩ = some (.int .i64 x.w) ∧ W0.cell? ⟨w.heap.size, 1, none⟩ = some (.int .i64 x.x) ∧ W0.cell? ⟨w.heap.size, 2, none⟩ = some (.int .i64 x.y) ∧ W0.cell? ⟨w.heap.size, 3, none⟩ = some (.int .i64 x.z)) := ⟨h1, h2, h3, h4⟩
  clear hb4 HB0 hB0 hm0 CC HM h0 h1 h2 h3 h4
  have q0 := fun w : World => Lib.run_eql_slice_nil (P := Try.prog) w 91 96 none 0 0 0 0 Try.underlying91
  have q1 := fun (w : World) (a : Addr) (n c : Nat) => Lib.run_eql_slice_nil (P := Try.prog) w 91 96 (some a) n c 0 0 Try.underlying91
  rcases hv with rfl | ⟨gr, cr, rfl, hgr, hlr, hrow⟩
  · go_wp2_with (first | (go_at_call 74; (with_reducible refine (COF.out _).mono ?_); rintro e W1 ⟨gr, cr, rfl, hgb, hlr, hrow, hb1⟩; obtain ⟨D, hD1, hD2⟩ := HM0.out.below hb1; have hgr : gr ≠ B := (by have := HM0.out.lt; omega); have hC1 : CM B W0 W1 := ⟨grown_of_below hb1, HM0.out.below hb1⟩; have HR1 : Hid (RowB W1 B (.slice (some ⟨gr, 0, none⟩) len cr) L) := ⟨gr, cr, by rw [HLEN.out], hgr, hlr, hrow⟩; have HD1 := Lib.hid hD1; have HD2 := Lib.hid hD2; have HC1 := Lib.hid hC1; clear hD1 hD2 hC1 hb1 hrow hgb) | (at_mapUpdate; refine wpList_mapUpdate_own _ rfl _ _ _ 136 rfl 3 91 keyI Try.underlying136 RV B 8 D rfl HD1.out (by unfold maxLen; omega) _ _ (.int .i64 p) rfl rfl (keyOf_int_mk Try.underlying3 (a := (p : Int)) (WalkArith.wf_i64 (by omega))) (.held (.slice (some ⟨gr, 0, none⟩) len cr)) [] rfl ?_; intro W2 hown2 hgrow2; have hrun2 := look_put HD2.out (by omega) hown2; have hm2 := MapI.put HD2.out (by omega) (by rw [← HL.out]; exact HR1.out) hown2 hgrow2; have HST : Hid (CM B W0 W2 ∧ gr < W2.heap.size ∧ ∀ k q, L[k]? = some q → H4 W2 gr k q) := ⟨HC1.out.trans ⟨hgrow2, hm2⟩, Nat.lt_of_lt_of_le hlr hgrow2.size, fun k q hq => (by obtain ⟨g', c', e', _, _, h'⟩ := HR1.out; cases e'; exact (h' k q hq).grown hgrow2 hgr)⟩; clear hown2 hgrow2 hm2 hrun))
    go_loopw [8, 45] (fun s i wr => ∃ k : Nat, k ≤ len ∧ i = .int .i64 k ∧ s = .int .i64 (sumR R k) ∧ Hid (CM B W0 wr ∧ gr < wr.heap.size ∧ ∀ k q, L[k]? = some q → H4 wr gr k q)) (fun _ i _ => len - (intOf i).toNat)
    case atStart => exact ⟨0, by omega, rfl, rfl, HST.out⟩
    case round =>
      clear HST
      obtain ⟨k, hk, rfl, rfl, HR1⟩ := hrel
      obtain ⟨wo, rfl⟩ : ∃ wo : World, wo = wr := ⟨_, rfl⟩
      obtain ⟨o1, o2, o3⟩ := HR1.out
      obtain ⟨x1, x2, x3, x4⟩ := HX.out
      have hwl : w.heap.size < wo.heap.size := Nat.lt_of_lt_of_le (World.block_lt_of_cell? W0 ⟨w.heap.size, 0, none⟩ x1) o1.1.size
      have hne2 : wo.heap.size ≠ B := by have := o1.2.lt; omega
      have y1 := o1.cell x1 hne
      have y2 := o1.cell x2 hne
      have y3 := o1.cell x3 hne
      have y4 := o1.cell x4 hne
      have O1 := Lib.hid o1
      have O3 : Hid _ := o3
      clear x1 x2 x3 x4 HR1
      by_cases hkn : k < len
      · obtain ⟨d, hd⟩ : ∃ d, L[k]? = some d := ⟨L[k]'(by rw [← HLEN.out]; exact hkn), List.getElem?_eq_getElem _⟩
        obtain ⟨d0, d1, d2, d3⟩ := o3 k d hd
        have kn : (k : Int) < (len : Int) := by omega
        have BE := Lib.hid (CBEF.out k d hd)
        have RE : Hid _ := CREC.out k (by rw [← HLEN.out]; exact hkn)
        have sb := SB.out k (by rw [← HLEN.out]; omega)
        have rb := HR.out k (by rw [← HLEN.out]; exact hkn)
        have hs : sumR R (k + 1) = sumR R k + 24 * R k := rfl
        have HS := Lib.hid hs
        have hmw := o1.2.below (w' := (wo.alloc (.cells #[.int .i64 d.w, .int .i64 d.x, .int .i64 d.y, .int .i64 d.z] 96))) (Below.alloc (Below.refl _ _) (Nat.le_refl _) _)
        have HMW := Lib.hid hmw
        have HCW : Hid (CM B w (wo.alloc (.cells #[.int .i64 d.w, .int .i64 d.x, .int .i64 d.y, .int .i64 d.z] 96))) := HC0.out.trans (O1.out.trans (CM.refl O1.out.2).grown_alloc)
        clear hd hs hmw o1 o3 CBEF CREC SB HR
        generalize sumR R k = s at *
        generalize R k = r at *
        go_wp2_with fail
        have z0 : (wo.alloc (.cells #[.int .i64 d.w, .int .i64 d.x, .int .i64 d.y, .int .i64 d.z] 96)).cell? ⟨w.heap.size, 0, none⟩ = some (.int .i64 x.w) := by go_simp
        have z1 : (wo.alloc (.cells #[.int .i64 d.w, .int .i64 d.x, .int .i64 d.y, .int .i64 d.z] 96)).cell? ⟨w.heap.size, 1, none⟩ = some (.int .i64 x.x) := by go_simp
        have z2 : (wo.alloc (.cells #[.int .i64 d.w, .int .i64 d.x, .int .i64 d.y, .int .i64 d.z] 96)).cell? ⟨w.heap.size, 2, none⟩ = some (.int .i64 x.y) := by go_simp
        have z3 : (wo.alloc (.cells #[.int .i64 d.w, .int .i64 d.x, .int .i64 d.y, .int .i64 d.z] 96)).cell? ⟨w.heap.size, 3, none⟩ = some (.int .i64 x.z) := by go_simp
        have e0 : (wo.alloc (.cells #[.int .i64 d.w, .int .i64 d.x, .int .i64 d.y, .int .i64 d.z] 96)).cell? ⟨wo.heap.size, 0, none⟩ = some (.int .i64 d.w) := by go_simp
        have e1 : (wo.alloc (.cells #[.int .i64 d.w, .int .i64 d.x, .int .i64 d.y, .int .i64 d.z] 96)).cell? ⟨wo.heap.size, 1, none⟩ = some (.int .i64 d.x) := by go_simp
        have e2 : (wo.alloc (.cells #[.int .i64 d.w, .int .i64 d.x, .int .i64 d.y, .int .i64 d.z] 96)).cell? ⟨wo.heap.size, 2, none⟩ = some (.int .i64 d.y) := by go_simp
        have e3 : (wo.alloc (.cells #[.int .i64 d.w, .int .i64 d.x, .int .i64 d.y, .int .i64 d.z] 96)).cell? ⟨wo.heap.size, 3, none⟩ = some (.int .i64 d.z) := by go_simp
        clear y1 y2 y3 y4 d0 d1 d2 d3
        have m1 : IntKind.i64.wrap (24 * r) = 24 * r := IntWalk.i64_in _ (by omega)
        have m2 : IntKind.i64.wrap (s + 24 * r) = s + 24 * r := IntWalk.i64_in _ (by omega)
        refine wp_region_quiet (C := CM B (wo.alloc (.cells #[.int .i64 d.w, .int .i64 d.x, .int .i64 d.y, .int .i64 d.z] 96))) (by kernel_rfl) (by kernel_rfl) (CM.start HMW.out) ?_
        simp only []
        (repeat (refine wpQuiet_step (fun K hK => ?_); go_simp; (try go_bits); apply Exists.intro; refine ⟨fun w' hw' => ?_, hK _ ?_⟩; (focus (first | with_reducible exact rfl | (go_at_call 107; with_reducible exact CM.call hw' (BE.out _)) | (go_at_call 108; with_reducible exact CM.count hw' (RE.out _ (HCW.out.trans hw'))) | (have v0 := hw'.cell z0 hne; have t0 := hw'.cell e0 hne2; have v1 := hw'.cell z1 hne; have t1 := hw'.cell e1 hne2; have v2 := hw'.cell z2 hne; have t2 := hw'.cell e2 hne2; have v3 := hw'.cell z3 hne; have t3 := hw'.cell e3 hne2; go_simp; exact rfl))); clear hK K))
        refine wpQuiet_nil ?_
        intro w3 hw3
        have H3 := Lib.hid hw3
        clear hw3 z0 z1 z2 z3 e0 e1 e2 e3
        go_wp2_with fail
        go_roundw
        case rel =>
          have hc := (CM.refl O1.out.2).grown_alloc.trans H3.out
          refine ⟨k + 1, by omega, by go_num, by rw [HS.out], O1.out.trans hc, Nat.lt_of_lt_of_le o2 hc.1.size, fun j q hq => (O3.out j q hq).grown hc.1 hgr⟩
        case measure => simp [intOf]; omega
      · obtain rfl : k = len := by omega
        clear o3 CBEF CREC SB HR y1 y2 y3 y4
        go_wp2_with fail
        go_ret
        exact ⟨rfl, HC0.out.trans O1.out⟩
  · rw [← HLEN.out] at hrun
    have HST : Hid (CM B W0 W0 ∧ gr < W0.heap.size ∧ ∀ k q, L[k]? = some q → H4 W0 gr k q) := ⟨CM.refl HM0.out, hlr, hrow⟩
    clear hlr hrow
    go_wp2_with fail
    go_loopw [8, 45] (fun s i wr => ∃ k : Nat, k ≤ len ∧ i = .int .i64 k ∧ s = .int .i64 (sumR R k) ∧ Hid (CM B W0 wr ∧ gr < wr.heap.size ∧ ∀ k q, L[k]? = some q → H4 wr gr k q)) (fun _ i _ => len - (intOf i).toNat)
    case atStart => exact ⟨0, by omega, rfl, rfl, HST.out⟩
    case round =>
      clear HST
      obtain ⟨k, hk, rfl, rfl, HR1⟩ := hrel
      obtain ⟨wo, rfl⟩ : ∃ wo : World, wo = wr := ⟨_, rfl⟩
      obtain ⟨o1, o2, o3⟩ := HR1.out
      obtain ⟨x1, x2, x3, x4⟩ := HX.out
      have hwl : w.heap.size < wo.heap.size := Nat.lt_of_lt_of_le (World.block_lt_of_cell? W0 ⟨w.heap.size, 0, none⟩ x1) o1.1.size
      have hne2 : wo.heap.size ≠ B := by have := o1.2.lt; omega
      have y1 := o1.cell x1 hne
      have y2 := o1.cell x2 hne
      have y3 := o1.cell x3 hne
      have y4 := o1.cell x4 hne
      have O1 := Lib.hid o1
      have O3 : Hid _ := o3
      clear x1 x2 x3 x4 HR1
      by_cases hkn : k < len
      · obtain ⟨d, hd⟩ : ∃ d, L[k]? = some d := ⟨L[k]'(by rw [← HLEN.out]; exact hkn), List.getElem?_eq_getElem _⟩
        obtain ⟨d0, d1, d2, d3⟩ := o3 k d hd
        have kn : (k : Int) < (len : Int) := by omega
        have BE := Lib.hid (CBEF.out k d hd)
        have RE : Hid _ := CREC.out k (by rw [← HLEN.out]; exact hkn)
        have sb := SB.out k (by rw [← HLEN.out]; omega)
        have rb := HR.out k (by rw [← HLEN.out]; exact hkn)
        have hs : sumR R (k + 1) = sumR R k + 24 * R k := rfl
        have HS := Lib.hid hs
        have hmw := o1.2.below (w' := (wo.alloc (.cells #[.int .i64 d.w, .int .i64 d.x, .int .i64 d.y, .int .i64 d.z] 96))) (Below.alloc (Below.refl _ _) (Nat.le_refl _) _)
        have HMW := Lib.hid hmw
        have HCW : Hid (CM B w (wo.alloc (.cells #[.int .i64 d.w, .int .i64 d.x, .int .i64 d.y, .int .i64 d.z] 96))) := HC0.out.trans (O1.out.trans (CM.refl O1.out.2).grown_alloc)
        clear hd hs hmw o1 o3 CBEF CREC SB HR
        generalize sumR R k = s at *
        generalize R k = r at *
        go_wp2_with fail
        have z0 : (wo.alloc (.cells #[.int .i64 d.w, .int .i64 d.x, .int .i64 d.y, .int .i64 d.z] 96)).cell? ⟨w.heap.size, 0, none⟩ = some (.int .i64 x.w) := by go_simp
        have z1 : (wo.alloc (.cells #[.int .i64 d.w, .int .i64 d.x, .int .i64 d.y, .int .i64 d.z] 96)).cell? ⟨w.heap.size, 1, none⟩ = some (.int .i64 x.x) := by go_simp
        have z2 : (wo.alloc (.cells #[.int .i64 d.w, .int .i64 d.x, .int .i64 d.y, .int .i64 d.z] 96)).cell? ⟨w.heap.size, 2, none⟩ = some (.int .i64 x.y) := by go_simp
        have z3 : (wo.alloc (.cells #[.int .i64 d.w, .int .i64 d.x, .int .i64 d.y, .int .i64 d.z] 96)).cell? ⟨w.heap.size, 3, none⟩ = some (.int .i64 x.z) := by go_simp
        have e0 : (wo.alloc (.cells #[.int .i64 d.w, .int .i64 d.x, .int .i64 d.y, .int .i64 d.z] 96)).cell? ⟨wo.heap.size, 0, none⟩ = some (.int .i64 d.w) := by go_simp
        have e1 : (wo.alloc (.cells #[.int .i64 d.w, .int .i64 d.x, .int .i64 d.y, .int .i64 d.z] 96)).cell? ⟨wo.heap.size, 1, none⟩ = some (.int .i64 d.x) := by go_simp
        have e2 : (wo.alloc (.cells #[.int .i64 d.w, .int .i64 d.x, .int .i64 d.y, .int .i64 d.z] 96)).cell? ⟨wo.heap.size, 2, none⟩ = some (.int .i64 d.y) := by go_simp
        have e3 : (wo.alloc (.cells #[.int .i64 d.w, .int .i64 d.x, .int .i64 d.y, .int .i64 d.z] 96)).cell? ⟨wo.heap.size, 3, none⟩ = some (.int .i64 d.z) := by go_simp
        clear y1 y2 y3 y4 d0 d1 d2 d3
        have m1 : IntKind.i64.wrap (24 * r) = 24 * r := IntWalk.i64_in _ (by omega)
        have m2 : IntKind.i64.wrap (s + 24 * r) = s + 24 * r := IntWalk.i64_in _ (by omega)
        refine wp_region_quiet (C := CM B (wo.alloc (.cells #[.int .i64 d.w, .int .i64 d.x, .int .i64 d.y, .int .i64 d.z] 96))) (by kernel_rfl) (by kernel_rfl) (CM.start HMW.out) ?_
        simp only []
        (repeat (refine wpQuiet_step (fun K hK => ?_); go_simp; (try go_bits); apply Exists.intro; refine ⟨fun w' hw' => ?_, hK _ ?_⟩; (focus (first | with_reducible exact rfl | (go_at_call 107; with_reducible exact CM.call hw' (BE.out _)) | (go_at_call 108; with_reducible exact CM.count hw' (RE.out _ (HCW.out.trans hw'))) | (have v0 := hw'.cell z0 hne; have t0 := hw'.cell e0 hne2; have v1 := hw'.cell z1 hne; have t1 := hw'.cell e1 hne2; have v2 := hw'.cell z2 hne; have t2 := hw'.cell e2 hne2; have v3 := hw'.cell z3 hne; have t3 := hw'.cell e3 hne2; go_simp; exact rfl))); clear hK K))
        refine wpQuiet_nil ?_
        intro w3 hw3
        have H3 := Lib.hid hw3
        clear hw3 z0 z1 z2 z3 e0 e1 e2 e3
        go_wp2_with fail
        go_roundw
        case rel =>
          have hc := (CM.refl O1.out.2).grown_alloc.trans H3.out
          refine ⟨k + 1, by omega, by go_num, by rw [HS.out], O1.out.trans hc, Nat.lt_of_lt_of_le o2 hc.1.size, fun j q hq => (O3.out j q hq).grown hc.1 hgr⟩
        case measure => simp [intOf]; omega
      · obtain rfl : k = len := by omega
        clear o3 CBEF CREC SB HR y1 y2 y3 y4
        go_wp2_with fail
        go_ret
        exact ⟨rfl, HC0.out.trans O1.out⟩
end
end Go.Proofs.Ythajaabgcbjfkaa
