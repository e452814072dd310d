/- Contract: all (the reference's list). -/
import Derived.Test.YthajaabgcbjfkaaB1
import Derived.Test.YthajaabgcbjfkaaN4
namespace Go.Proofs.Ythajaabgcbjfkaa
open Go.RowKit

set_option maxRecDepth 100000 in
set_option maxHeartbeats 8000000 in
theorem all_any (n : Nat) (h1 : 1 ≤ n) (h2 : n ≤ 30) (w : World) :
    Calls Try.prog 75 #[.int .i64 ((n : Int))] w fun e w' => ∃ v, e = .returned v ∧ OwnR w' w.heap.size v (allH n) ∧ Below w.heap.size w w' := by
  go_enter Try.func75, Try.ntmps75
  go_wp2
  go_loop [4] (fun m => ∃ k : Nat, m = .int .i64 k ∧ k ≤ 10 ∧ Hid (∀ j : Nat, j < k + 1 → (j : Int) * j ≤ 4 * n)) (fun m => 12 - (intOf m).toNat)
  case atStart => exact ⟨0, rfl, by omega, fun j hj => by
    obtain rfl : j = 0 := by omega
    simp; omega⟩
  case round =>
    obtain ⟨b, rfl, hb, HM⟩ := hrel
    obtain ⟨s0, s1⟩ := sq_bd (x := (b : Int) + 1) (B := 11) (by omega) ⟨by omega, by omega⟩
    by_cases hlt : ((b : Int) + 1) * ((b : Int) + 1) ≤ 4 * n
    · have hb2 : b < 10 := by
        apply Nat.not_le.1; intro hc
        have : b = 10 := by omega
        subst this; omega
      go_wp2
      go_round
      case rel => exact ⟨b + 1, by go_num, by omega, fun j hj => by
        by_cases e : j = b + 1
        · subst e; simpa using hlt
        · exact HM.out j (by omega)⟩
      case measure => simp [intOf]; omega
    · have hup := Lib.hid (up_int (k := b + 1) (by simpa using hlt) HM.out)
      clear HM
      go_wp2
      clear hlt s0 s1
      have HI : Hid (RInv w.heap.size w (.slice none 0 0) [] w) := ⟨OwnR.nil _ _, Below.refl _ _, Nat.le_refl _⟩
      go_loopw [3, 5] (fun v t wr => ∃ iw : Nat, iw ≤ 2 * b + 1 ∧ t = .int .i64 ((b : Int) - iw) ∧ RInv w.heap.size w v (allW n b iw) wr) (fun _ t _ => (12 + intOf t).toNat)
      case atStart => exact ⟨0, by omega, by simp, by simpa [allW] using HI.out⟩
      case round =>
        clear HI
        obtain ⟨iw, hiw, rfl, hinv⟩ := hrel
        obtain ⟨wo, rfl⟩ : ∃ wo : World, wo = wr := ⟨_, rfl⟩
        have HI := Lib.hid hinv
        clear hinv
        generalize hW : (b : Int) - (iw : Int) = W
        have wva : -(b : Int) - 1 ≤ W := by omega
        have wvb : W ≤ (b : Int) := by omega
        have HW := Lib.hid hW
        by_cases ltW : -(b : Int) ≤ W
        · have lw : iw < 2 * b + 1 := by omega
          have hsn := allW_snoc n b iw
          rw [hW] at hsn
          have HS0 := Lib.hid hsn
          clear hsn
          have hP0 : (allW n b iw).length ≤ 194481 := by
            have h1 := allW_len n b iw
            have h2 : iw * ((2 * b + 1) * ((2 * b + 1) * ((2 * b + 1) * 1))) ≤ 21 * (21 * (21 * (21 * 1))) := Nat.mul_le_mul (by omega) (Nat.mul_le_mul (by omega) (Nat.mul_le_mul (by omega) (Nat.mul_le_mul_right 1 (by omega))))
            omega
          generalize hPP : allW n b iw = P0 at *
          have HP0 := Lib.hid hPP
          clear hPP hW
          obtain ⟨ws0, ws1⟩ := sq_bd (x := W) (B := 11) (by omega) ⟨by omega, by omega⟩
          go_wp2
          go_loopw [3, 6] (fun v t wr => ∃ ix : Nat, ix ≤ 2 * b + 1 ∧ t = .int .i64 ((b : Int) - ix) ∧ RInv w.heap.size w v (P0 ++ allX n b W ix) wr) (fun _ t _ => (12 + intOf t).toNat)
          case atStart => exact ⟨0, by omega, by simp, by simpa [allX] using HI.out⟩
          case round =>
            clear HI
            obtain ⟨ix, hix, rfl, hinv⟩ := hrel
            obtain ⟨wo, rfl⟩ : ∃ wo : World, wo = wr := ⟨_, rfl⟩
            have HI := Lib.hid hinv
            clear hinv
            generalize hX : (b : Int) - (ix : Int) = X
            have xva : -(b : Int) - 1 ≤ X := by omega
            have xvb : X ≤ (b : Int) := by omega
            have HX := Lib.hid hX
            by_cases ltX : -(b : Int) ≤ X
            · have lx : ix < 2 * b + 1 := by omega
              have hsn := allX_snoc n b W ix
              rw [hX] at hsn
              have HS1 := Lib.hid hsn
              clear hsn
              have hP1 : (P0 ++ allX n b W ix).length ≤ 203742 := by
                rw [List.length_append]
                have h1 := allX_len n b W ix
                have h2 : ix * ((2 * b + 1) * ((2 * b + 1) * 1)) ≤ 21 * (21 * (21 * 1)) := Nat.mul_le_mul (by omega) (Nat.mul_le_mul (by omega) (Nat.mul_le_mul_right 1 (by omega)))
                omega
              generalize hPP : P0 ++ allX n b W ix = P1 at *
              have HP1 := Lib.hid hPP
              clear hPP hX
              obtain ⟨xs0, xs1⟩ := sq_bd (x := X) (B := 11) (by omega) ⟨by omega, by omega⟩
              go_wp2
              go_loopw [3, 7] (fun v t wr => ∃ iy : Nat, iy ≤ 2 * b + 1 ∧ t = .int .i64 ((b : Int) - iy) ∧ RInv w.heap.size w v (P1 ++ allY n b W X iy) wr) (fun _ t _ => (12 + intOf t).toNat)
              case atStart => exact ⟨0, by omega, by simp, by simpa [allY] using HI.out⟩
              case round =>
                clear HI
                obtain ⟨iy, hiy, rfl, hinv⟩ := hrel
                obtain ⟨wo, rfl⟩ : ∃ wo : World, wo = wr := ⟨_, rfl⟩
                have HI := Lib.hid hinv
                clear hinv
                generalize hY : (b : Int) - (iy : Int) = Y
                have yva : -(b : Int) - 1 ≤ Y := by omega
                have yvb : Y ≤ (b : Int) := by omega
                have HY := Lib.hid hY
                by_cases ltY : -(b : Int) ≤ Y
                · have ly : iy < 2 * b + 1 := by omega
                  have hsn := allY_snoc n b W X iy
                  rw [hY] at hsn
                  have HS2 := Lib.hid hsn
                  clear hsn
                  have hP2 : (P1 ++ allY n b W X iy).length ≤ 204183 := by
                    rw [List.length_append]
                    have h1 := allY_len n b W X iy
                    have h2 : iy * ((2 * b + 1) * 1) ≤ 21 * (21 * 1) := Nat.mul_le_mul (by omega) (Nat.mul_le_mul_right 1 (by omega))
                    omega
                  generalize hPP : P1 ++ allY n b W X iy = P2 at *
                  have HP2 := Lib.hid hPP
                  clear hPP hY
                  obtain ⟨ys0, ys1⟩ := sq_bd (x := Y) (B := 11) (by omega) ⟨by omega, by omega⟩
                  go_wp2
                  go_loopw [3, 8] (fun v t wr => ∃ iz : Nat, iz ≤ 2 * b + 1 ∧ t = .int .i64 ((b : Int) - iz) ∧ RInv w.heap.size w v (P2 ++ allZ n b W X Y iz) wr) (fun _ t _ => (12 + intOf t).toNat)
                  case atStart => exact ⟨0, by omega, by simp, by simpa [allZ] using HI.out⟩
                  case round =>
                    clear HI
                    obtain ⟨iz, hiz, rfl, hinv⟩ := hrel
                    obtain ⟨wo, rfl⟩ : ∃ wo : World, wo = wr := ⟨_, rfl⟩
                    have HI := Lib.hid hinv
                    clear hinv
                    generalize hZ : (b : Int) - (iz : Int) = Z
                    have zva : -(b : Int) - 1 ≤ Z := by omega
                    have zvb : Z ≤ (b : Int) := by omega
                    have HZ := Lib.hid hZ
                    by_cases ltZ : -(b : Int) ≤ Z
                    · have lz : iz < 2 * b + 1 := by omega
                      have hsn := allZ_snoc n b W X Y iz
                      rw [hZ] at hsn
                      have HS3 := Lib.hid hsn
                      clear hsn
                      have hP3 : (P2 ++ allZ n b W X Y iz).length ≤ 204204 := by
                        rw [List.length_append]
                        have h1 := allZ_len n b W X Y iz
                        have h2 : iz * (1) ≤ 21 * (1) := Nat.mul_le_mul_right 1 (by omega)
                        omega
                      generalize hPP : P2 ++ allZ n b W X Y iz = P3 at *
                      have HP3 := Lib.hid hPP
                      clear hPP hZ
                      obtain ⟨zs0, zs1⟩ := sq_bd (x := Z) (B := 11) (by omega) ⟨by omega, by omega⟩
                      have tm : ∀ u : Int, u % 2 = 0 → (u % 2 == 0) = true := fun u hu => by simpa using hu
                      have tn : ∀ u : Int, ¬ u % 2 = 0 → (u % 2 == 0) = false := fun u hu => by simpa using hu
                      have done0 : ∀ (u : Value) (wz : World), RInv w.heap.size w u (P3 ++ cellA n W X Y Z) wz → ∃ i' : Nat, i' ≤ 2 * b + 1 ∧ Value.int .i64 (Z - 1) = .int .i64 ((b : Int) - i') ∧ RInv w.heap.size w u (P2 ++ allZ n b W X Y i') wz := fun u wz hh => by
                        have hz := HZ.out
                        refine ⟨iz + 1, by omega, by congr 1; omega, ?_⟩
                        rw [HS3.out, ← List.append_assoc, HP3.out]
                        exact hh
                      have D0 := Lib.hid done0
                      clear done0
                      by_cases c0 : W * W + X * X + Y * Y + Z * Z = 4 * n
                      rotate_left
                      · have t0 : (W * W + X * X + Y * Y + Z * Z == 4 * (n : Int)) = false := by simpa using c0
                        have hc : cellA n W X Y Z = [] := if_neg fun h => c0 h.1
                        have HC := Lib.hid hc
                        clear tm tn c0 hc
                        go_wp2
                        go_roundw
                        case rel => exact D0.out _ _ (by rw [HC.out, List.append_nil]; exact HI.out.alloc _)
                        case measure => simp [intOf]; omega
                      have t0 : (W * W + X * X + Y * Y + Z * Z == 4 * (n : Int)) = true := by simpa using c0
                      by_cases c1 : (W - X) % 2 = 0
                      rotate_left
                      · have t1 := tn _ c1
                        have hc : cellA n W X Y Z = [] := if_neg fun h => c1 h.2.1
                        have HC := Lib.hid hc
                        clear tm tn c0 c1 hc
                        go_wp2_with (first | (go_at_call 114; with_reducible refine (rmod_in _ _ (by omega) (by omega) (by omega) (by omega) _).mono ?_; rintro e w' ⟨rfl, rfl⟩))
                        go_roundw
                        case rel => exact D0.out _ _ (by rw [HC.out, List.append_nil]; exact HI.out.alloc _)
                        case measure => simp [intOf]; omega
                      have t1 := tm _ c1
                      by_cases c2 : (W - Y) % 2 = 0
                      rotate_left
                      · have t2 := tn _ c2
                        have hc : cellA n W X Y Z = [] := if_neg fun h => c2 h.2.2.1
                        have HC := Lib.hid hc
                        clear tm tn c0 c1 c2 hc
                        go_wp2_with (first | (go_at_call 114; with_reducible refine (rmod_in _ _ (by omega) (by omega) (by omega) (by omega) _).mono ?_; rintro e w' ⟨rfl, rfl⟩))
                        go_roundw
                        case rel => exact D0.out _ _ (by rw [HC.out, List.append_nil]; exact HI.out.alloc _)
                        case measure => simp [intOf]; omega
                      have t2 := tm _ c2
                      by_cases c3 : (W - Z) % 2 = 0
                      rotate_left
                      · have t3 := tn _ c3
                        have hc : cellA n W X Y Z = [] := if_neg fun h => c3 h.2.2.2
                        have HC := Lib.hid hc
                        clear tm tn c0 c1 c2 c3 hc
                        go_wp2_with (first | (go_at_call 114; with_reducible refine (rmod_in _ _ (by omega) (by omega) (by omega) (by omega) _).mono ?_; rintro e w' ⟨rfl, rfl⟩))
                        go_roundw
                        case rel => exact D0.out _ _ (by rw [HC.out, List.append_nil]; exact HI.out.alloc _)
                        case measure => simp [intOf]; omega
                      have t3 := tm _ c3
                      have hc : cellA n W X Y Z = [⟨W, X, Y, Z⟩] := if_pos ⟨c0, c1, c2, c3⟩
                      have HC := Lib.hid hc
                      clear tm tn c0 c1 c2 c3 hc
                      go_wp2_with (first | (go_at_call 114; with_reducible refine (rmod_in _ _ (by omega) (by omega) (by omega) (by omega) _).mono ?_; rintro e w' ⟨rfl, rfl⟩) | (at_builtin; go_must (refine append_rhur (HI.out.1.alloc _) (w0 := w) (HI.out.2.1.alloc HI.out.2.2 _) (by have := HI.out.2.2; simp; omega) ⟨W, X, Y, Z⟩ (by omega) rfl (.tmp 92) (.tmp 94) rfl (by rfl) (by rfl) (by simp) ?_); intro v2 w2 hown2 hB2 hz2))
                      go_roundw
                      case rel => exact D0.out _ _ (by rw [HC.out]; exact ⟨hown2, hB2, hz2⟩)
                      case measure => simp [intOf]; omega

                    · go_wp2
                      go_roundw
                      case rel =>
                        have hie : iz = 2 * b + 1 := by omega
                        subst hie
                        refine ⟨iy + 1, by omega, by have := HY.out; congr 1; omega, ?_⟩
                        have h := HI.out
                        rw [← HP2.out, List.append_assoc] at h
                        rw [HS2.out]
                        exact h
                      case measure => simp [intOf]; omega
                · go_wp2
                  go_roundw
                  case rel =>
                    have hie : iy = 2 * b + 1 := by omega
                    subst hie
                    refine ⟨ix + 1, by omega, by have := HX.out; congr 1; omega, ?_⟩
                    have h := HI.out
                    rw [← HP1.out, List.append_assoc] at h
                    rw [HS1.out]
                    exact h
                  case measure => simp [intOf]; omega
            · go_wp2
              go_roundw
              case rel =>
                have hie : ix = 2 * b + 1 := by omega
                subst hie
                refine ⟨iw + 1, by omega, by have := HW.out; congr 1; omega, ?_⟩
                have h := HI.out
                rw [HS0.out]
                exact h
              case measure => simp [intOf]; omega
        · go_wp2
          go_ret
          have hie : iw = 2 * b + 1 := by omega
          subst hie
          refine ⟨u3, rfl, ?_, HI.out.2.1⟩
          have h := HI.out.1
          unfold allH
          rw [← hup.out, Nat.add_sub_cancel]
          exact h
end Go.Proofs.Ythajaabgcbjfkaa
