/- The law RotationActs: the walk, with no guard true. Printed by geny6.py. -/
import Derived.Test.YthajaabgcbjfkaaY6
namespace Go.Proofs.Ythajaabgcbjfkaa
open Go.RowKit Go.BigFrame

set_option maxRecDepth 100000 in
set_option maxHeartbeats 4000000 in
theorem acts_main2 (x y : Qd) (p : Int) (h : 2 ≤ p) (h2 : p ≤ 31) (X Y : Qt) (N M : Int) (hN : 0 ≤ N ∧ N ≤ 1000000) (hM : 0 ≤ M ∧ M ≤ 1000000) (h3 : ¬ 1000 < N) (h4 : ¬ 1000 < M) (hNp : ¬ N % p = 0) (hMp : ¬ M % p = 0) (h5 : ¬ 1000000 < p * N * M) (n : Nat) (hn : p = 2 ∧ n = 1) (Z : Qd) (JA JB JC JD : List Nat)
    (lA : JA.length = n) (lB : JB.length = n) (aA : ∀ k : Nat, k < n → k ∈ JA) (aB : ∀ k : Nat, k < n → k ∈ JB) (hmul : ∀ k : Nat, k < n → ∃ b a : Nat, JB[k]? = some b ∧ b < n ∧ JA[b]? = some a ∧ JC[k]? = some a) (hone : ∀ k : Nat, k < n → JD[k]? = some k)
    (ea : ∀ w, Calls Try.prog 16 #[.agg #[.int .i64 x.w, .int .i64 x.x, .int .i64 x.y, .int .i64 x.z, .int .i64 x.d]] w fun e w' => e = .returned (.int .i64 0) ∧ Below w.heap.size w w')
    (eb : ∀ w, Calls Try.prog 16 #[.agg #[.int .i64 y.w, .int .i64 y.x, .int .i64 y.y, .int .i64 y.z, .int .i64 y.d]] w fun e w' => e = .returned (.int .i64 0) ∧ Below w.heap.size w w')
    (pr : ∀ w, Calls Try.prog 54 #[.int .i64 p] w fun e w' => e = .returned (.bool true) ∧ Below w.heap.size w w')
    (ox : ∀ w, Calls Try.prog 17 #[.agg #[.int .i64 x.w, .int .i64 x.x, .int .i64 x.y, .int .i64 x.z, .int .i64 x.d]] w fun e w' => e = .returned (.tuple #[.agg #[.int .i64 X.w, .int .i64 X.x, .int .i64 X.y, .int .i64 X.z], .bool true]) ∧ Below w.heap.size w w')
    (oy : ∀ w, Calls Try.prog 17 #[.agg #[.int .i64 y.w, .int .i64 y.x, .int .i64 y.y, .int .i64 y.z, .int .i64 y.d]] w fun e w' => e = .returned (.tuple #[.agg #[.int .i64 Y.w, .int .i64 Y.x, .int .i64 Y.y, .int .i64 Y.z], .bool true]) ∧ Below w.heap.size w w')
    (nx : ∀ w, Calls Try.prog 21 #[.agg #[.int .i64 X.w, .int .i64 X.x, .int .i64 X.y, .int .i64 X.z]] w fun e w' => e = .returned (.int .i64 N) ∧ Below w.heap.size w w')
    (ny : ∀ w, Calls Try.prog 21 #[.agg #[.int .i64 Y.w, .int .i64 Y.x, .int .i64 Y.y, .int .i64 Y.z]] w fun e w' => e = .returned (.int .i64 M) ∧ Below w.heap.size w w')
    (tz : ∀ w, Calls Try.prog 35 #[.agg #[.int .i64 x.w, .int .i64 x.x, .int .i64 x.y, .int .i64 x.z, .int .i64 x.d], .agg #[.int .i64 y.w, .int .i64 y.x, .int .i64 y.y, .int .i64 y.z, .int .i64 y.d]] w fun e w' => e = .returned (.tuple #[.agg #[.int .i64 Z.w, .int .i64 Z.x, .int .i64 Z.y, .int .i64 Z.z, .int .i64 Z.d], .int .i64 0]) ∧ Below w.heap.size w w')
    (px : PermC x p n JA) (py : PermC y p n JB) (pz : PermC Z p n JC) (p1 : PermC ⟨p + 1, 0, 0, 0, 1⟩ p n JD) (w : World) :
    Calls Try.prog 11 #[.agg #[.int .i64 x.w, .int .i64 x.x, .int .i64 x.y, .int .i64 x.z, .int .i64 x.d], .agg #[.int .i64 y.w, .int .i64 y.x, .int .i64 y.y, .int .i64 y.z, .int .i64 y.d], .int .i64 p] w fun e w' => e = .returned (.bool true) ∧ Below w.heap.size w w' := by
  obtain ⟨rfl, rfl⟩ := hn
  change PermC ⟨3, 0, 0, 0, 1⟩ 2 1 JD at p1
  have EA := Lib.hid ea; have EB := Lib.hid eb; have PR := Lib.hid pr; have OX := Lib.hid ox; have OY := Lib.hid oy; have NX := Lib.hid nx; have NY := Lib.hid ny; have TZ := Lib.hid tz; have PX := Lib.hid px; have PY := Lib.hid py; have PZ := Lib.hid pz; have P1 := Lib.hid p1
  have HMUL : Hid _ := hmul; have HONE : Hid _ := hone; have AA : Hid _ := aA; have AB : Hid _ := aB; have LA := Lib.hid lA; have LB := Lib.hid lB
  clear ea eb pr ox oy nx ny tz px py pz p1 hmul hone aA aB lA lB
  have d3 : decide (1000 < N) = false := decide_eq_false h3
  have d4 : decide (1000 < M) = false := decide_eq_false h4
  have d5 : decide (1000000 < (2 : Int) * N * M) = false := decide_eq_false h5
  have p0 : ¬ (2 : Int) = 0 := by omega
  have fN1 : (N % (2 : Int) == 0) = false := by simpa using hNp
  have fN2 : (N.tmod (2 : Int) == 0) = false := by rw [Int.tmod_eq_emod_of_nonneg (by omega)]; exact fN1
  have fM1 : (M % (2 : Int) == 0) = false := by simpa using hMp
  have fM2 : (M.tmod (2 : Int) == 0) = false := by rw [Int.tmod_eq_emod_of_nonneg (by omega)]; exact fM1
  have q1 : 0 ≤ (2 : Int) * N := Int.mul_nonneg (by omega) hN.1
  have q2 : (2 : Int) * N ≤ 31 * 1000 := Int.mul_le_mul h2 (by omega) hN.1 (by omega)
  have q3 : 0 ≤ (2 : Int) * N * M := Int.mul_nonneg q1 hM.1
  have q4 : (2 : Int) * N * M ≤ 31 * 1000 * 1000 := Int.mul_le_mul q2 (by omega) hM.1 (by omega)
  have n40 : (1 : Nat) ≤ 40 := by omega
  have nn : (((1 : Nat) : Int) != ((1 : Nat) : Int)) = false := by simp
  have w1 : ∀ W g c, ZRow W g (JA.map fun (j : Nat) => (j : Int)) → Calls Try.prog 57 #[.slice (some ⟨g, 0, none⟩) (1 : Nat) c] W fun e w' => e = .returned (.bool true) ∧ Below W.heap.size W w' := fun W g c h => permutes_yes (h.rd (by rw [List.length_map]; exact LA.out)) (by rw [List.length_map, LA.out]; omega) fun i hi => List.mem_map.2 ⟨i, AA.out i (by rw [List.length_map, LA.out] at hi; exact hi), rfl⟩
  have w2 : ∀ W g c, ZRow W g (JB.map fun (j : Nat) => (j : Int)) → Calls Try.prog 57 #[.slice (some ⟨g, 0, none⟩) (1 : Nat) c] W fun e w' => e = .returned (.bool true) ∧ Below W.heap.size W w' := fun W g c h => permutes_yes (h.rd (by rw [List.length_map]; exact LB.out)) (by rw [List.length_map, LB.out]; omega) fun i hi => List.mem_map.2 ⟨i, AB.out i (by rw [List.length_map, LB.out] at hi; exact hi), rfl⟩
  have WA := Lib.hid w1; have WB := Lib.hid w2
  clear w1 w2
  skip
  go_enter Try.func11, Try.ntmps11
  go_wp2_with (first | (go_at_call 14; with_reducible refine (awake_any _).mono ?_; rintro e w1 ⟨rfl, hb1⟩; obtain ⟨g1, rfl⟩ := more_of_below hb1; clear hb1) | (go_at_call 16; first | ((with_reducible refine (EA.out _).mono ?_); rintro e w2 ⟨rfl, hb2⟩; obtain ⟨g2, rfl⟩ := more_of_below hb2; clear hb2) | ((with_reducible refine (EB.out _).mono ?_); rintro e w3 ⟨rfl, hb3⟩; obtain ⟨g3, rfl⟩ := more_of_below hb3; clear hb3)) | (go_at_call 54; with_reducible refine (PR.out _).mono ?_; rintro e w4 ⟨rfl, hb4⟩; obtain ⟨g4, rfl⟩ := more_of_below hb4; clear hb4) | (go_at_call 17; first | ((with_reducible refine (OX.out _).mono ?_); rintro e w5 ⟨rfl, hb5⟩; obtain ⟨g5, rfl⟩ := more_of_below hb5; clear hb5) | ((with_reducible refine (OY.out _).mono ?_); rintro e w6 ⟨rfl, hb6⟩; obtain ⟨g6, rfl⟩ := more_of_below hb6; clear hb6)))
  (refine wp_region_quiet (C := Ext _) (by kernel_rfl) (by kernel_rfl) (Ext.start _) ?_; simp only []; (repeat (first | go_big_quiet_skip | (go_big_quiet_want; go_big_quiet_op; first | go_big_quiet_on | (apply Exists.intro; refine ⟨fun w' hw' => ?_, ?_⟩; (focus (first | with_reducible exact rfl | (go_at_call 21; (first | with_reducible exact Ext.call hw' (NX.out _) | with_reducible exact Ext.call hw' (NY.out _))) | (obtain ⟨gx, rfl⟩ := more_of_below (Ext.below hw'); go_simp; exact rfl))); go_big_quiet_on)))); refine wpQuiet_nil ?_; intro w8 hw8; have hb8 := Ext.below hw8; clear hw8; obtain ⟨g8, rfl⟩ := more_of_below hb8; clear hb8)
  go_wp2_with (first | (go_at_call 55; first | ((with_reducible refine (PX.out _).mono ?_); rintro e w20 ⟨gr20, cr20, rfl, hz20, hb20⟩; have HZ20 := Lib.hid hz20; clear hz20; obtain ⟨g20, rfl⟩ := more_of_below hb20; clear hb20) | ((with_reducible refine (PY.out _).mono ?_); rintro e w21 ⟨gr21, cr21, rfl, hz21, hb21⟩; have HZ21 := Lib.hid hz21; clear hz21; obtain ⟨g21, rfl⟩ := more_of_below hb21; clear hb21) | ((with_reducible refine (PZ.out _).mono ?_); rintro e w22 ⟨gr22, cr22, rfl, hz22, hb22⟩; have HZ22 := Lib.hid hz22; clear hz22; obtain ⟨g22, rfl⟩ := more_of_below hb22; clear hb22) | ((with_reducible refine (P1.out _).mono ?_); rintro e w23 ⟨gr23, cr23, rfl, hz23, hb23⟩; have HZ23 := Lib.hid hz23; clear hz23; obtain ⟨g23, rfl⟩ := more_of_below hb23; clear hb23)) | (go_at_call 35; with_reducible refine (TZ.out _).mono ?_; rintro e w10 ⟨rfl, hb10⟩; obtain ⟨g10, rfl⟩ := more_of_below hb10; clear hb10) | (go_at_call 56; with_reducible refine (lquat_any _ _ _ _ _).mono ?_; rintro e w11 ⟨rfl, hb11⟩; obtain ⟨g11, rfl⟩ := more_of_below hb11; clear hb11) | (go_at_call 57; first | ((with_reducible refine (WA.out _ _ _ ?_).mono ?_); (focus ((repeat (first | with_reducible exact HZ20.out | with_reducible exact HZ21.out | with_reducible exact HZ22.out | with_reducible exact HZ23.out | with_reducible refine ZRow.mor ?_ _ | with_reducible refine ZRow.alloc ?_ _)); done)); rintro e w30 ⟨rfl, hb30⟩; obtain ⟨g30, rfl⟩ := more_of_below hb30; clear hb30) | ((with_reducible refine (WB.out _ _ _ ?_).mono ?_); (focus ((repeat (first | with_reducible exact HZ20.out | with_reducible exact HZ21.out | with_reducible exact HZ22.out | with_reducible exact HZ23.out | with_reducible refine ZRow.mor ?_ _ | with_reducible refine ZRow.alloc ?_ _)); done)); rintro e W0 ⟨rfl, hb31⟩; have HBW := Lib.hid hb31; clear hb31)))
  have hb31 := HBW.out
  have ZA : Hid (ZRow W0 gr20 (JA.map fun (j : Nat) => (j : Int))) := ZRow.low hb31 (by ((repeat (first | with_reducible exact HZ20.out | with_reducible exact HZ21.out | with_reducible exact HZ22.out | with_reducible exact HZ23.out | with_reducible refine ZRow.mor ?_ _ | with_reducible refine ZRow.alloc ?_ _)); done))
  have ZB : Hid (ZRow W0 gr21 (JB.map fun (j : Nat) => (j : Int))) := ZRow.low hb31 (by ((repeat (first | with_reducible exact HZ20.out | with_reducible exact HZ21.out | with_reducible exact HZ22.out | with_reducible exact HZ23.out | with_reducible refine ZRow.mor ?_ _ | with_reducible refine ZRow.alloc ?_ _)); done))
  have ZC : Hid (ZRow W0 gr22 (JC.map fun (j : Nat) => (j : Int))) := ZRow.low hb31 (by ((repeat (first | with_reducible exact HZ20.out | with_reducible exact HZ21.out | with_reducible exact HZ22.out | with_reducible exact HZ23.out | with_reducible refine ZRow.mor ?_ _ | with_reducible refine ZRow.alloc ?_ _)); done))
  have ZD : Hid (ZRow W0 gr23 (JD.map fun (j : Nat) => (j : Int))) := ZRow.low hb31 (by ((repeat (first | with_reducible exact HZ20.out | with_reducible exact HZ21.out | with_reducible exact HZ22.out | with_reducible exact HZ23.out | with_reducible refine ZRow.mor ?_ _ | with_reducible refine ZRow.alloc ?_ _)); done))
  have HB0 : Hid (Below w.heap.size w W0) := Below.trans (by (repeat (first | with_reducible assumption | with_reducible exact Below.refl _ _ | with_reducible refine Below.drewN ?_ _ | with_reducible refine Below.drew ?_ | with_reducible refine Below.alloc ?_ (by first | omega | (simp; done) | (simp; omega)) _ | with_reducible refine Below.setCell ?_ (by first | omega | (simp; done) | (simp; omega)) _ | with_reducible refine below_more _ _ ?_ (by first | omega | (simp; done) | (simp; omega))))) (hb31.mono (by simp; omega))
  clear hb31 HBW
  all_goals clear EA EB PR OX OY NX NY TZ PX PY PZ P1 WA WB AA AB HZ20 HZ21 HZ22 HZ23
  all_goals have eNN : (((1 : Nat) : Int) == ((1 : Nat) : Int)) = true := by simp
  all_goals skip
  go_loopw [21] (fun i wr => ∃ k : Nat, k ≤ (1 : Nat) ∧ i = .int .i64 k ∧ Ext W0 wr) (fun i _ => (1 : Nat) - (intOf i).toNat)
  case atStart => exact ⟨0, by omega, rfl, Ext.refl _⟩
  case round =>
    obtain ⟨k, hk, rfl, hext⟩ := hrel
    obtain ⟨gx, rfl⟩ := more_of_below (Ext.below hext)
    clear hext
    by_cases hkn : k < (1 : Nat)
    · obtain ⟨b, a, h1, h2, h3, h4⟩ := HMUL.out k hkn
      have h5 := HONE.out k hkn
      have c1 := ZC.out.at_ k (a : Int) (by rw [List.getElem?_map, h4]; rfl)
      have c2 := ZB.out.at_ k (b : Int) (by rw [List.getElem?_map, h1]; rfl)
      have c3 := ZA.out.at_ b (a : Int) (by rw [List.getElem?_map, h3]; rfl)
      have c4 := ZD.out.at_ k (k : Int) (by rw [List.getElem?_map, h5]; rfl)
      have l1 := ZC.out.lt
      have l2 := ZB.out.lt
      have l3 := ZA.out.lt
      have l4 := ZD.out.lt
      have kn : (k : Int) < ((1 : Nat) : Int) := by omega
      have bn : (b : Int) < ((1 : Nat) : Int) := by omega
      have ea : ((a : Int) != (a : Int)) = false := by simp
      have ek : ((k : Int) != (k : Int)) = false := by simp
      clear h1 h3 h4 h5 HMUL HONE ZA ZB ZC ZD
      go_wp2_with fail
      (refine wp_region_quiet (C := Ext _) (by kernel_rfl) (by kernel_rfl) (Ext.start _) ?_; simp only []; (repeat (first | go_big_quiet_skip | (go_big_quiet_want; go_big_quiet_op; first | go_big_quiet_on | (apply Exists.intro; refine ⟨fun w' hw' => ?_, ?_⟩; (focus (first | with_reducible exact rfl | (obtain ⟨gx, rfl⟩ := more_of_below (Ext.below hw'); go_simp; exact rfl))); go_big_quiet_on)))); refine wpQuiet_nil ?_; intro w9 hw9; have hb9 := Ext.below hw9; clear hw9; obtain ⟨g9, rfl⟩ := more_of_below hb9; clear hb9)
      go_wp2
      go_roundw
      case rel => exact ⟨k + 1, by omega, by go_num, ext_mk (by (repeat (first | with_reducible assumption | with_reducible exact Below.refl _ _ | with_reducible refine Below.drewN ?_ _ | with_reducible refine Below.drew ?_ | with_reducible refine Below.alloc ?_ (by first | omega | (simp; done) | (simp; omega)) _ | with_reducible refine Below.setCell ?_ (by first | omega | (simp; done) | (simp; omega)) _ | with_reducible refine below_more _ _ ?_ (by first | omega | (simp; done) | (simp; omega)))))⟩
      case measure => simp [intOf]; omega
    · obtain rfl : k = (1 : Nat) := by omega
      have hB' : Below w.heap.size w (more W0 gx) := below_more _ _ HB0.out HB0.out.size
      clear HMUL HONE ZA ZB ZC ZD
      go_wp2
      go_ret
      exact ⟨rfl, hB'⟩
set_option maxRecDepth 100000 in
set_option maxHeartbeats 4000000 in
theorem acts_mainp (x y : Qd) (p : Int) (h : 2 ≤ p) (h2 : p ≤ 31) (X Y : Qt) (N M : Int) (hN : 0 ≤ N ∧ N ≤ 1000000) (hM : 0 ≤ M ∧ M ≤ 1000000) (h3 : ¬ 1000 < N) (h4 : ¬ 1000 < M) (hNp : ¬ N % p = 0) (hMp : ¬ M % p = 0) (h5 : ¬ 1000000 < p * N * M) (n : Nat) (hn : 2 < p ∧ (n : Int) = p + 1) (Z : Qd) (JA JB JC JD : List Nat)
    (lA : JA.length = n) (lB : JB.length = n) (aA : ∀ k : Nat, k < n → k ∈ JA) (aB : ∀ k : Nat, k < n → k ∈ JB) (hmul : ∀ k : Nat, k < n → ∃ b a : Nat, JB[k]? = some b ∧ b < n ∧ JA[b]? = some a ∧ JC[k]? = some a) (hone : ∀ k : Nat, k < n → JD[k]? = some k)
    (ea : ∀ w, Calls Try.prog 16 #[.agg #[.int .i64 x.w, .int .i64 x.x, .int .i64 x.y, .int .i64 x.z, .int .i64 x.d]] w fun e w' => e = .returned (.int .i64 0) ∧ Below w.heap.size w w')
    (eb : ∀ w, Calls Try.prog 16 #[.agg #[.int .i64 y.w, .int .i64 y.x, .int .i64 y.y, .int .i64 y.z, .int .i64 y.d]] w fun e w' => e = .returned (.int .i64 0) ∧ Below w.heap.size w w')
    (pr : ∀ w, Calls Try.prog 54 #[.int .i64 p] w fun e w' => e = .returned (.bool true) ∧ Below w.heap.size w w')
    (ox : ∀ w, Calls Try.prog 17 #[.agg #[.int .i64 x.w, .int .i64 x.x, .int .i64 x.y, .int .i64 x.z, .int .i64 x.d]] w fun e w' => e = .returned (.tuple #[.agg #[.int .i64 X.w, .int .i64 X.x, .int .i64 X.y, .int .i64 X.z], .bool true]) ∧ Below w.heap.size w w')
    (oy : ∀ w, Calls Try.prog 17 #[.agg #[.int .i64 y.w, .int .i64 y.x, .int .i64 y.y, .int .i64 y.z, .int .i64 y.d]] w fun e w' => e = .returned (.tuple #[.agg #[.int .i64 Y.w, .int .i64 Y.x, .int .i64 Y.y, .int .i64 Y.z], .bool true]) ∧ Below w.heap.size w w')
    (nx : ∀ w, Calls Try.prog 21 #[.agg #[.int .i64 X.w, .int .i64 X.x, .int .i64 X.y, .int .i64 X.z]] w fun e w' => e = .returned (.int .i64 N) ∧ Below w.heap.size w w')
    (ny : ∀ w, Calls Try.prog 21 #[.agg #[.int .i64 Y.w, .int .i64 Y.x, .int .i64 Y.y, .int .i64 Y.z]] w fun e w' => e = .returned (.int .i64 M) ∧ Below w.heap.size w w')
    (tz : ∀ w, Calls Try.prog 35 #[.agg #[.int .i64 x.w, .int .i64 x.x, .int .i64 x.y, .int .i64 x.z, .int .i64 x.d], .agg #[.int .i64 y.w, .int .i64 y.x, .int .i64 y.y, .int .i64 y.z, .int .i64 y.d]] w fun e w' => e = .returned (.tuple #[.agg #[.int .i64 Z.w, .int .i64 Z.x, .int .i64 Z.y, .int .i64 Z.z, .int .i64 Z.d], .int .i64 0]) ∧ Below w.heap.size w w')
    (px : PermC x p n JA) (py : PermC y p n JB) (pz : PermC Z p n JC) (p1 : PermC ⟨p + 1, 0, 0, 0, 1⟩ p n JD) (w : World) :
    Calls Try.prog 11 #[.agg #[.int .i64 x.w, .int .i64 x.x, .int .i64 x.y, .int .i64 x.z, .int .i64 x.d], .agg #[.int .i64 y.w, .int .i64 y.x, .int .i64 y.y, .int .i64 y.z, .int .i64 y.d], .int .i64 p] w fun e w' => e = .returned (.bool true) ∧ Below w.heap.size w w' := by
  have EA := Lib.hid ea; have EB := Lib.hid eb; have PR := Lib.hid pr; have OX := Lib.hid ox; have OY := Lib.hid oy; have NX := Lib.hid nx; have NY := Lib.hid ny; have TZ := Lib.hid tz; have PX := Lib.hid px; have PY := Lib.hid py; have PZ := Lib.hid pz; have P1 := Lib.hid p1
  have HMUL : Hid _ := hmul; have HONE : Hid _ := hone; have AA : Hid _ := aA; have AB : Hid _ := aB; have LA := Lib.hid lA; have LB := Lib.hid lB
  clear ea eb pr ox oy nx ny tz px py pz p1 hmul hone aA aB lA lB
  have d3 : decide (1000 < N) = false := decide_eq_false h3
  have d4 : decide (1000 < M) = false := decide_eq_false h4
  have d5 : decide (1000000 < p * N * M) = false := decide_eq_false h5
  have p0 : ¬ p = 0 := by omega
  have fN1 : (N % p == 0) = false := by simpa using hNp
  have fN2 : (N.tmod p == 0) = false := by rw [Int.tmod_eq_emod_of_nonneg (by omega)]; exact fN1
  have fM1 : (M % p == 0) = false := by simpa using hMp
  have fM2 : (M.tmod p == 0) = false := by rw [Int.tmod_eq_emod_of_nonneg (by omega)]; exact fM1
  have q1 : 0 ≤ p * N := Int.mul_nonneg (by omega) hN.1
  have q2 : p * N ≤ 31 * 1000 := Int.mul_le_mul h2 (by omega) hN.1 (by omega)
  have q3 : 0 ≤ p * N * M := Int.mul_nonneg q1 hM.1
  have q4 : p * N * M ≤ 31 * 1000 * 1000 := Int.mul_le_mul q2 (by omega) hM.1 (by omega)
  have n40 : n ≤ 40 := by omega
  have nn : ((n : Int) != (n : Int)) = false := by simp
  have w1 : ∀ W g c, ZRow W g (JA.map fun (j : Nat) => (j : Int)) → Calls Try.prog 57 #[.slice (some ⟨g, 0, none⟩) n c] W fun e w' => e = .returned (.bool true) ∧ Below W.heap.size W w' := fun W g c h => permutes_yes (h.rd (by rw [List.length_map]; exact LA.out)) (by rw [List.length_map, LA.out]; omega) fun i hi => List.mem_map.2 ⟨i, AA.out i (by rw [List.length_map, LA.out] at hi; exact hi), rfl⟩
  have w2 : ∀ W g c, ZRow W g (JB.map fun (j : Nat) => (j : Int)) → Calls Try.prog 57 #[.slice (some ⟨g, 0, none⟩) n c] W fun e w' => e = .returned (.bool true) ∧ Below W.heap.size W w' := fun W g c h => permutes_yes (h.rd (by rw [List.length_map]; exact LB.out)) (by rw [List.length_map, LB.out]; omega) fun i hi => List.mem_map.2 ⟨i, AB.out i (by rw [List.length_map, LB.out] at hi; exact hi), rfl⟩
  have WA := Lib.hid w1; have WB := Lib.hid w2
  clear w1 w2
  have u1 : (p == 2) = false := by rw [beq_eq_false_iff_ne]; omega
  have u2 : ((n : Int) != p + 1) = false := by rw [hn.2]; simp
  have u3 : decide (2 < p) = true := decide_eq_true hn.1
  go_enter Try.func11, Try.ntmps11
  go_wp2_with (first | (go_at_call 14; with_reducible refine (awake_any _).mono ?_; rintro e w1 ⟨rfl, hb1⟩; obtain ⟨g1, rfl⟩ := more_of_below hb1; clear hb1) | (go_at_call 16; first | ((with_reducible refine (EA.out _).mono ?_); rintro e w2 ⟨rfl, hb2⟩; obtain ⟨g2, rfl⟩ := more_of_below hb2; clear hb2) | ((with_reducible refine (EB.out _).mono ?_); rintro e w3 ⟨rfl, hb3⟩; obtain ⟨g3, rfl⟩ := more_of_below hb3; clear hb3)) | (go_at_call 54; with_reducible refine (PR.out _).mono ?_; rintro e w4 ⟨rfl, hb4⟩; obtain ⟨g4, rfl⟩ := more_of_below hb4; clear hb4) | (go_at_call 17; first | ((with_reducible refine (OX.out _).mono ?_); rintro e w5 ⟨rfl, hb5⟩; obtain ⟨g5, rfl⟩ := more_of_below hb5; clear hb5) | ((with_reducible refine (OY.out _).mono ?_); rintro e w6 ⟨rfl, hb6⟩; obtain ⟨g6, rfl⟩ := more_of_below hb6; clear hb6)))
  (refine wp_region_quiet (C := Ext _) (by kernel_rfl) (by kernel_rfl) (Ext.start _) ?_; simp only []; (repeat (first | go_big_quiet_skip | (go_big_quiet_want; go_big_quiet_op; first | go_big_quiet_on | (apply Exists.intro; refine ⟨fun w' hw' => ?_, ?_⟩; (focus (first | with_reducible exact rfl | (go_at_call 21; (first | with_reducible exact Ext.call hw' (NX.out _) | with_reducible exact Ext.call hw' (NY.out _))) | (obtain ⟨gx, rfl⟩ := more_of_below (Ext.below hw'); go_simp; exact rfl))); go_big_quiet_on)))); refine wpQuiet_nil ?_; intro w8 hw8; have hb8 := Ext.below hw8; clear hw8; obtain ⟨g8, rfl⟩ := more_of_below hb8; clear hb8)
  go_wp2_with (first | (go_at_call 55; first | ((with_reducible refine (PX.out _).mono ?_); rintro e w20 ⟨gr20, cr20, rfl, hz20, hb20⟩; have HZ20 := Lib.hid hz20; clear hz20; obtain ⟨g20, rfl⟩ := more_of_below hb20; clear hb20) | ((with_reducible refine (PY.out _).mono ?_); rintro e w21 ⟨gr21, cr21, rfl, hz21, hb21⟩; have HZ21 := Lib.hid hz21; clear hz21; obtain ⟨g21, rfl⟩ := more_of_below hb21; clear hb21) | ((with_reducible refine (PZ.out _).mono ?_); rintro e w22 ⟨gr22, cr22, rfl, hz22, hb22⟩; have HZ22 := Lib.hid hz22; clear hz22; obtain ⟨g22, rfl⟩ := more_of_below hb22; clear hb22) | ((with_reducible refine (P1.out _).mono ?_); rintro e w23 ⟨gr23, cr23, rfl, hz23, hb23⟩; have HZ23 := Lib.hid hz23; clear hz23; obtain ⟨g23, rfl⟩ := more_of_below hb23; clear hb23)) | (go_at_call 35; with_reducible refine (TZ.out _).mono ?_; rintro e w10 ⟨rfl, hb10⟩; obtain ⟨g10, rfl⟩ := more_of_below hb10; clear hb10) | (go_at_call 56; with_reducible refine (lquat_any _ _ _ _ _).mono ?_; rintro e w11 ⟨rfl, hb11⟩; obtain ⟨g11, rfl⟩ := more_of_below hb11; clear hb11) | (go_at_call 57; first | ((with_reducible refine (WA.out _ _ _ ?_).mono ?_); (focus ((repeat (first | with_reducible exact HZ20.out | with_reducible exact HZ21.out | with_reducible exact HZ22.out | with_reducible exact HZ23.out | with_reducible refine ZRow.mor ?_ _ | with_reducible refine ZRow.alloc ?_ _)); done)); rintro e w30 ⟨rfl, hb30⟩; obtain ⟨g30, rfl⟩ := more_of_below hb30; clear hb30) | ((with_reducible refine (WB.out _ _ _ ?_).mono ?_); (focus ((repeat (first | with_reducible exact HZ20.out | with_reducible exact HZ21.out | with_reducible exact HZ22.out | with_reducible exact HZ23.out | with_reducible refine ZRow.mor ?_ _ | with_reducible refine ZRow.alloc ?_ _)); done)); rintro e W0 ⟨rfl, hb31⟩; have HBW := Lib.hid hb31; clear hb31)))
  have hb31 := HBW.out
  have ZA : Hid (ZRow W0 gr20 (JA.map fun (j : Nat) => (j : Int))) := ZRow.low hb31 (by ((repeat (first | with_reducible exact HZ20.out | with_reducible exact HZ21.out | with_reducible exact HZ22.out | with_reducible exact HZ23.out | with_reducible refine ZRow.mor ?_ _ | with_reducible refine ZRow.alloc ?_ _)); done))
  have ZB : Hid (ZRow W0 gr21 (JB.map fun (j : Nat) => (j : Int))) := ZRow.low hb31 (by ((repeat (first | with_reducible exact HZ20.out | with_reducible exact HZ21.out | with_reducible exact HZ22.out | with_reducible exact HZ23.out | with_reducible refine ZRow.mor ?_ _ | with_reducible refine ZRow.alloc ?_ _)); done))
  have ZC : Hid (ZRow W0 gr22 (JC.map fun (j : Nat) => (j : Int))) := ZRow.low hb31 (by ((repeat (first | with_reducible exact HZ20.out | with_reducible exact HZ21.out | with_reducible exact HZ22.out | with_reducible exact HZ23.out | with_reducible refine ZRow.mor ?_ _ | with_reducible refine ZRow.alloc ?_ _)); done))
  have ZD : Hid (ZRow W0 gr23 (JD.map fun (j : Nat) => (j : Int))) := ZRow.low hb31 (by ((repeat (first | with_reducible exact HZ20.out | with_reducible exact HZ21.out | with_reducible exact HZ22.out | with_reducible exact HZ23.out | with_reducible refine ZRow.mor ?_ _ | with_reducible refine ZRow.alloc ?_ _)); done))
  have HB0 : Hid (Below w.heap.size w W0) := Below.trans (by (repeat (first | with_reducible assumption | with_reducible exact Below.refl _ _ | with_reducible refine Below.drewN ?_ _ | with_reducible refine Below.drew ?_ | with_reducible refine Below.alloc ?_ (by first | omega | (simp; done) | (simp; omega)) _ | with_reducible refine Below.setCell ?_ (by first | omega | (simp; done) | (simp; omega)) _ | with_reducible refine below_more _ _ ?_ (by first | omega | (simp; done) | (simp; omega))))) (hb31.mono (by simp; omega))
  clear hb31 HBW
  all_goals clear EA EB PR OX OY NX NY TZ PX PY PZ P1 WA WB AA AB HZ20 HZ21 HZ22 HZ23
  all_goals have eNN : ((n : Int) == (n : Int)) = true := by simp
  all_goals skip
  go_loopw [21] (fun i wr => ∃ k : Nat, k ≤ n ∧ i = .int .i64 k ∧ Ext W0 wr) (fun i _ => n - (intOf i).toNat)
  case atStart => exact ⟨0, by omega, rfl, Ext.refl _⟩
  case round =>
    obtain ⟨k, hk, rfl, hext⟩ := hrel
    obtain ⟨gx, rfl⟩ := more_of_below (Ext.below hext)
    clear hext
    by_cases hkn : k < n
    · obtain ⟨b, a, h1, h2, h3, h4⟩ := HMUL.out k hkn
      have h5 := HONE.out k hkn
      have c1 := ZC.out.at_ k (a : Int) (by rw [List.getElem?_map, h4]; rfl)
      have c2 := ZB.out.at_ k (b : Int) (by rw [List.getElem?_map, h1]; rfl)
      have c3 := ZA.out.at_ b (a : Int) (by rw [List.getElem?_map, h3]; rfl)
      have c4 := ZD.out.at_ k (k : Int) (by rw [List.getElem?_map, h5]; rfl)
      have l1 := ZC.out.lt
      have l2 := ZB.out.lt
      have l3 := ZA.out.lt
      have l4 := ZD.out.lt
      have kn : (k : Int) < (n : Int) := by omega
      have bn : (b : Int) < (n : Int) := by omega
      have ea : ((a : Int) != (a : Int)) = false := by simp
      have ek : ((k : Int) != (k : Int)) = false := by simp
      clear h1 h3 h4 h5 HMUL HONE ZA ZB ZC ZD
      go_wp2_with fail
      (refine wp_region_quiet (C := Ext _) (by kernel_rfl) (by kernel_rfl) (Ext.start _) ?_; simp only []; (repeat (first | go_big_quiet_skip | (go_big_quiet_want; go_big_quiet_op; first | go_big_quiet_on | (apply Exists.intro; refine ⟨fun w' hw' => ?_, ?_⟩; (focus (first | with_reducible exact rfl | (obtain ⟨gx, rfl⟩ := more_of_below (Ext.below hw'); go_simp; exact rfl))); go_big_quiet_on)))); refine wpQuiet_nil ?_; intro w9 hw9; have hb9 := Ext.below hw9; clear hw9; obtain ⟨g9, rfl⟩ := more_of_below hb9; clear hb9)
      go_wp2
      go_roundw
      case rel => exact ⟨k + 1, by omega, by go_num, ext_mk (by (repeat (first | with_reducible assumption | with_reducible exact Below.refl _ _ | with_reducible refine Below.drewN ?_ _ | with_reducible refine Below.drew ?_ | with_reducible refine Below.alloc ?_ (by first | omega | (simp; done) | (simp; omega)) _ | with_reducible refine Below.setCell ?_ (by first | omega | (simp; done) | (simp; omega)) _ | with_reducible refine below_more _ _ ?_ (by first | omega | (simp; done) | (simp; omega)))))⟩
      case measure => simp [intOf]; omega
    · obtain rfl : k = n := by omega
      have hB' : Below w.heap.size w (more W0 gx) := below_more _ _ HB0.out HB0.out.size
      clear HMUL HONE ZA ZB ZC ZD
      go_wp2
      go_ret
      exact ⟨rfl, hB'⟩
end Go.Proofs.Ythajaabgcbjfkaa
