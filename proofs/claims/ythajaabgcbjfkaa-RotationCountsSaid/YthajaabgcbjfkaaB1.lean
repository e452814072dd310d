/- The reference's list of all Hurwitz quaternions of a norm: slices that the call owns; contract of all. Contract: all (the reference's list). -/
import Derived.Test.YthajaabgcbjfkaaN1
import Derived.Test.YthajaabgcbjfkaaR1
import Derived.Test.YthajaabgcbjfkaaO1
import Derived.Test.YthajaabgcbjfkaaN3
namespace Go.Proofs.Ythajaabgcbjfkaa
open Go.RowKit

theorem rhurInfo : (Try.prog.info? 32).map (fun i => (i.zero, i.size, i.bytes)) = some (some (.agg #[.int .i64 0, .int .i64 0, .int .i64 0, .int .i64 0]), 4, 32) := by kernel_rfl
/-- The slice v of the call's own holds the quaternions l. -/
def OwnR (w : World) (base : Nat) (v : Value) (l : List Qt) : Prop := w.ownsRow base 32 4 v l.length (flatQ l)
theorem OwnR.nil (w : World) (base : Nat) : OwnR w base (.slice none 0 0) [] := ⟨by simp [flatQ], .inl ⟨rfl, rfl⟩⟩
theorem OwnR.alloc {w : World} {base : Nat} {v : Value} {l : List Qt} (h : OwnR w base v l) (o : Obj) : OwnR (w.alloc o) base v l := World.ownsRow.alloc h o
theorem OwnR.mor {W : World} {base : Nat} {v : Value} {l : List Qt} (h : OwnR W base v l) (g : Nat × Array Obj) : OwnR (more W g) base v l := by
  obtain ⟨h1, h2⟩ := h
  refine ⟨h1, ?_⟩
  rcases h2 with h2 | ⟨g', cap, cur, hv, hg, hh, r⟩
  · exact .inl h2
  · exact .inr ⟨g', cap, cur, hv, hg, by rw [heap_more W g (Array.getElem?_eq_some_iff.1 hh).1]; exact hh, r⟩
theorem OwnR.rd {W : World} {base : Nat} {v : Value} {l : List Qt} (h : OwnR W base v l) : (v = .slice none 0 0 ∧ l = []) ∨ ∃ g cap, v = .slice (some ⟨g, 0, none⟩) l.length cap ∧ base ≤ g ∧ g < W.heap.size ∧ ∀ k q, l[k]? = some q → H4 W g k q := by
  obtain ⟨_, h2⟩ := h
  rcases h2 with ⟨h2, h3⟩ | ⟨g', cap', cur, hv, hg, hh, hn, hcap, hsz, htk⟩
  · exact .inl ⟨h2, List.eq_nil_of_length_eq_zero h3⟩
  · refine .inr ⟨g', cap', hv, hg, (Array.getElem?_eq_some_iff.1 hh).1, fun k q hq => ?_⟩
    have hk : k < l.length := (List.getElem?_eq_some_iff.1 hq).1
    have key : ∀ j v, j < 4 → (encQ q)[j]? = some v → W.cell? ⟨g', k * 4 + j, none⟩ = some v := fun j v hj hv => by
      rw [cell_of_row W g' _ cur _ (0, 0) hh]
      have h1 := flatQ_get l k q hq j hj
      rw [hv, ← htk, List.getElem?_take_of_lt (by omega), Array.getElem?_toList] at h1
      exact h1
    exact ⟨key 0 _ (by omega) rfl, key 1 _ (by omega) rfl, key 2 _ (by omega) rfl, key 3 _ (by omega) rfl⟩
theorem append_rhur {w0 w : World} {base : Nat} {v : Value} {l : List Qt} (hown : OwnR w base v l) (hB : Below base w0 w) (hbase : base ≤ w.heap.size) (q : Qt) (hlen : l.length < 1000000)
    {ops : Array Oper} {rest : List Oper} {o : Oper} {a : Act} {Q : Exit → Act → World → Prop} (hgd : o.guard = none) (s x : Operand)
    (ho : o.op = .call { callee := .builtin .append, args := #[s, x], argTypes := #[47, 47] })
    (hs : a.eval s = v) {m : Nat} (hx : a.eval x = .slice (some ⟨m, 0, none⟩) 1 1) (hm : m = w.heap.size)
    (h : ∀ v' w', OwnR w' base v' (l ++ [q]) → Below base w0 w' → base ≤ w'.heap.size → wpList Try.prog ops Q rest (a.put o.dst v') w') : wpList Try.prog ops Q (o :: rest) a (w.alloc (.cells #[.int .i64 q.w, .int .i64 q.x, .int .i64 q.y, .int .i64 q.z] 32)) := by
  subst hm
  obtain ⟨i0, hi0, hz0, hz1, hz2⟩ := info_parts rhurInfo
  refine wpList_append_own _ hgd s x 47 ho base 32 i0 _ 4 32 Try.underlying47 hi0 hz0 hz1 hz2 rfl (by omega) v l.length (flatQ l) hs (hown.alloc _)
    ⟨w.heap.size, 0, none⟩ 1 1 (encQ q) hx rfl ?_ (encQ_one q) (by simp only [maxLen]; omega) (by omega) (by simp; omega) ?_
  · intro j u hu
    have : (⟨w.heap.size, 0, none⟩ : Addr).add j = ⟨w.heap.size, j, none⟩ := by unfold Addr.add; split <;> simp_all
    rw [this, cell_of_row _ _ _ _ _ _ (heap_alloc_new w _)]
    simpa [encQ] using hu
  · intro v' w' h1 h2 _
    have hsz : w.heap.size ≤ w'.heap.size := Nat.le_trans (by simp) h2.size
    refine h v' w' (by unfold OwnR; rw [flatQ_append]; simpa [flatQ] using h1) ((hB.alloc hbase _).grown h2 (by simp; omega) ?_) (by omega)
    intro k hk
    exact (hown.lt k hk).1

def cellA (n : Nat) (w x y z : Int) : List Qt := if w * w + x * x + y * y + z * z = 4 * n ∧ (w - x) % 2 = 0 ∧ (w - y) % 2 = 0 ∧ (w - z) % 2 = 0 then [⟨w, x, y, z⟩] else []
theorem allZ_snoc (n b : Nat) (w x y : Int) (k : Nat) : allZ n b w x y (k + 1) = allZ n b w x y k ++ cellA n w x y ((b : Int) - k) := by
  unfold allZ; rw [List.range_succ, List.flatMap_append]; simp [cellA]
theorem allY_snoc (n b : Nat) (w x : Int) (k : Nat) : allY n b w x (k + 1) = allY n b w x k ++ allZ n b w x ((b : Int) - k) (2 * b + 1) := by
  unfold allY; rw [List.range_succ, List.flatMap_append]; simp
theorem allX_snoc (n b : Nat) (w : Int) (k : Nat) : allX n b w (k + 1) = allX n b w k ++ allY n b w ((b : Int) - k) (2 * b + 1) := by
  unfold allX; rw [List.range_succ, List.flatMap_append]; simp
theorem allW_snoc (n b k : Nat) : allW n b (k + 1) = allW n b k ++ allX n b ((b : Int) - k) (2 * b + 1) := by
  unfold allW; rw [List.range_succ, List.flatMap_append]; simp
theorem allZ_len (n b : Nat) (w x y : Int) (k : Nat) : (allZ n b w x y k).length ≤ k * 1 := length_flat fun i _ => by split <;> simp
theorem allY_len (n b : Nat) (w x : Int) (k : Nat) : (allY n b w x k).length ≤ k * ((2 * b + 1) * 1) := length_flat fun _ _ => allZ_len _ _ _ _ _ _
theorem allX_len (n b : Nat) (w : Int) (k : Nat) : (allX n b w k).length ≤ k * ((2 * b + 1) * ((2 * b + 1) * 1)) := length_flat fun _ _ => allY_len _ _ _ _ _
theorem allW_len (n b k : Nat) : (allW n b k).length ≤ k * ((2 * b + 1) * ((2 * b + 1) * ((2 * b + 1) * 1))) := length_flat fun _ _ => allX_len _ _ _ _

def RInv (B : Nat) (w0 : World) (v : Value) (l : List Qt) (w : World) : Prop := OwnR w B v l ∧ Below B w0 w ∧ B ≤ w.heap.size
theorem RInv.alloc {B : Nat} {w0 : World} {v : Value} {l : List Qt} {w : World} (h : RInv B w0 v l w) (o : Obj) : RInv B w0 v l (w.alloc o) :=
  ⟨h.1.alloc o, h.2.1.alloc h.2.2 o, by have := h.2.2; simp; omega⟩
end Go.Proofs.Ythajaabgcbjfkaa

namespace Go.Proofs.Ythajaabgcbjfkaa
open Go.RowKit

set_option maxRecDepth 100000 in
set_option maxHeartbeats 8000000 in
theorem all_any (n : Nat) (h1 : 1 ≤ n) (h2 : n ≤ 30) (w : World) :
    Calls Try.prog 75 #[.int .i64 ((n : Int))] w fun e w' => ∃ v, e = .returned v ∧ OwnR w' w.heap.size v (allH n) ∧ Below w.heap.size w w' := by
  go_enter Try.func75, Try.ntmps75
  go_wp2
  go_loop [4] (fun m => ∃ k : Nat, m = .int .i64 k ∧ k ≤ 10 ∧ Hid (∀ j : Nat, j < k + 1 → (j : Int) * j ≤ 4 * n)) (fun m => 12 - (intOf m).toNat)
  case atStart => exact ⟨0, rfl, by omega, fun j hj => by
    obtain rfl : j = 0 := by omega
    simp; omega⟩
  case round =>
    obtain ⟨b, rfl, hb, HM⟩ := hrel
    obtain ⟨s0, s1⟩ := sq_bd (x := (b : Int) + 1) (B := 11) (by omega) ⟨by omega, by omega⟩
    by_cases hlt : ((b : Int) + 1) * ((b : Int) + 1) ≤ 4 * n
    · have hb2 : b < 10 := by
        apply Nat.not_le.1; intro hc
        have : b = 10 := by omega
        subst this; omega
      go_wp2
      go_round
      case rel => exact ⟨b + 1, by go_num, by omega, fun j hj => by
        by_cases e : j = b + 1
        · subst e; simpa using hlt
        · exact HM.out j (by omega)⟩
      case measure => simp [intOf]; omega
    · have hup := Lib.hid (up_int (k := b + 1) (by simpa using hlt) HM.out)
      clear HM
      go_wp2
      clear hlt s0 s1
      have HI : Hid (RInv w.heap.size w (.slice none 0 0) [] w) := ⟨OwnR.nil _ _, Below.refl _ _, Nat.le_refl _⟩
      go_loopw [3, 5] (fun v t wr => ∃ iw : Nat, iw ≤ 2 * b + 1 ∧ t = .int .i64 ((b : Int) - iw) ∧ RInv w.heap.size w v (allW n b iw) wr) (fun _ t _ => (12 + intOf t).toNat)
      case atStart => exact ⟨0, by omega, by simp, by simpa [allW] using HI.out⟩
      case round =>
        clear HI
        obtain ⟨iw, hiw, rfl, hinv⟩ := hrel
        obtain ⟨wo, rfl⟩ : ∃ wo : World, wo = wr := ⟨_, rfl⟩
        have HI := Lib.hid hinv
        clear hinv
        generalize hW : (b : Int) - (iw : Int) = W
        have wva : -(b : Int) - 1 ≤ W := by omega
        have wvb : W ≤ (b : Int) := by omega
        have HW := Lib.hid hW
        by_cases ltW : -(b : Int) ≤ W
        · have lw : iw < 2 * b + 1 := by omega
          have hsn := allW_snoc n b iw
          rw [hW] at hsn
          have HS0 := Lib.hid hsn
          clear hsn
          have hP0 : (allW n b iw).length ≤ 194481 := by
            have h1 := allW_len n b iw
            have h2 : iw * ((2 * b + 1) * ((2 * b + 1) * ((2 * b + 1) * 1))) ≤ 21 * (21 * (21 * (21 * 1))) := Nat.mul_le_mul (by omega) (Nat.mul_le_mul (by omega) (Nat.mul_le_mul (by omega) (Nat.mul_le_mul_right 1 (by omega))))
            omega
          generalize hPP : allW n b iw = P0 at *
          have HP0 := Lib.hid hPP
          clear hPP hW
          obtain ⟨ws0, ws1⟩ := sq_bd (x := W) (B := 11) (by omega) ⟨by omega, by omega⟩
          go_wp2
          go_loopw [3, 6] (fun v t wr => ∃ ix : Nat, ix ≤ 2 * b + 1 ∧ t = .int .i64 ((b : Int) - ix) ∧ RInv w.heap.size w v (P0 ++ allX n b W ix) wr) (fun _ t _ => (12 + intOf t).toNat)
          case atStart => exact ⟨0, by omega, by simp, by simpa [allX] using HI.out⟩
          case round =>
            clear HI
            obtain ⟨ix, hix, rfl, hinv⟩ := hrel
            obtain ⟨wo, rfl⟩ : ∃ wo : World, wo = wr := ⟨_, rfl⟩
            have HI := Lib.hid hinv
            clear hinv
            generalize hX : (b : Int) - (ix : Int) = X
            have xva : -(b : Int) - 1 ≤ X := by omega
            have xvb : X ≤ (b : Int) := by omega
            have HX := Lib.hid hX
            by_cases ltX : -(b : Int) ≤ X
            · have lx : ix < 2 * b + 1 := by omega
              have hsn := allX_snoc n b W ix
              rw [hX] at hsn
              have HS1 := Lib.hid hsn
              clear hsn
              have hP1 : (P0 ++ allX n b W ix).length ≤ 203742 := by
                rw [List.length_append]
                have h1 := allX_len n b W ix
                have h2 : ix * ((2 * b + 1) * ((2 * b + 1) * 1)) ≤ 21 * (21 * (21 * 1)) := Nat.mul_le_mul (by omega) (Nat.mul_le_mul (by omega) (Nat.mul_le_mul_right 1 (by omega)))
                omega
              generalize hPP : P0 ++ allX n b W ix = P1 at *
              have HP1 := Lib.hid hPP
              clear hPP hX
              obtain ⟨xs0, xs1⟩ := sq_bd (x := X) (B := 11) (by omega) ⟨by omega, by omega⟩
              go_wp2
              go_loopw [3, 7] (fun v t wr => ∃ iy : Nat, iy ≤ 2 * b + 1 ∧ t = .int .i64 ((b : Int) - iy) ∧ RInv w.heap.size w v (P1 ++ allY n b W X iy) wr) (fun _ t _ => (12 + intOf t).toNat)
              case atStart => exact ⟨0, by omega, by simp, by simpa [allY] using HI.out⟩
              case round =>
                clear HI
                obtain ⟨iy, hiy, rfl, hinv⟩ := hrel
                obtain ⟨wo, rfl⟩ : ∃ wo : World, wo = wr := ⟨_, rfl⟩
                have HI := Lib.hid hinv
                clear hinv
                generalize hY : (b : Int) - (iy : Int) = Y
                have yva : -(b : Int) - 1 ≤ Y := by omega
                have yvb : Y ≤ (b : Int) := by omega
                have HY := Lib.hid hY
                by_cases ltY : -(b : Int) ≤ Y
                · have ly : iy < 2 * b + 1 := by omega
                  have hsn := allY_snoc n b W X iy
                  rw [hY] at hsn
                  have HS2 := Lib.hid hsn
                  clear hsn
                  have hP2 : (P1 ++ allY n b W X iy).length ≤ 204183 := by
                    rw [List.length_append]
                    have h1 := allY_len n b W X iy
                    have h2 : iy * ((2 * b + 1) * 1) ≤ 21 * (21 * 1) := Nat.mul_le_mul (by omega) (Nat.mul_le_mul_right 1 (by omega))
                    omega
                  generalize hPP : P1 ++ allY n b W X iy = P2 at *
                  have HP2 := Lib.hid hPP
                  clear hPP hY
                  obtain ⟨ys0, ys1⟩ := sq_bd (x := Y) (B := 11) (by omega) ⟨by omega, by omega⟩
                  go_wp2
                  go_loopw [3, 8] (fun v t wr => ∃ iz : Nat, iz ≤ 2 * b + 1 ∧ t = .int .i64 ((b : Int) - iz) ∧ RInv w.heap.size w v (P2 ++ allZ n b W X Y iz) wr) (fun _ t _ => (12 + intOf t).toNat)
                  case atStart => exact ⟨0, by omega, by simp, by simpa [allZ] using HI.out⟩
                  case round =>
                    clear HI
                    obtain ⟨iz, hiz, rfl, hinv⟩ := hrel
                    obtain ⟨wo, rfl⟩ : ∃ wo : World, wo = wr := ⟨_, rfl⟩
                    have HI := Lib.hid hinv
                    clear hinv
                    generalize hZ : (b : Int) - (iz : Int) = Z
                    have zva : -(b : Int) - 1 ≤ Z := by omega
                    have zvb : Z ≤ (b : Int) := by omega
                    have HZ := Lib.hid hZ
                    by_cases ltZ : -(b : Int) ≤ Z
                    · have lz : iz < 2 * b + 1 := by omega
                      have hsn := allZ_snoc n b W X Y iz
                      rw [hZ] at hsn
                      have HS3 := Lib.hid hsn
                      clear hsn
                      have hP3 : (P2 ++ allZ n b W X Y iz).length ≤ 204204 := by
                        rw [List.length_append]
                        have h1 := allZ_len n b W X Y iz
                        have h2 : iz * (1) ≤ 21 * (1) := Nat.mul_le_mul_right 1 (by omega)
                        omega
                      generalize hPP : P2 ++ allZ n b W X Y iz = P3 at *
                      have HP3 := Lib.hid hPP
                      clear hPP hZ
                      obtain ⟨zs0, zs1⟩ := sq_bd (x := Z) (B := 11) (by omega) ⟨by omega, by omega⟩
                      have tm : ∀ u : Int, u % 2 = 0 → (u % 2 == 0) = true := fun u hu => by simpa using hu
                      have tn : ∀ u : Int, ¬ u % 2 = 0 → (u % 2 == 0) = false := fun u hu => by simpa using hu
                      have done0 : ∀ (u : Value) (wz : World), RInv w.heap.size w u (P3 ++ cellA n W X Y Z) wz → ∃ i' : Nat, i' ≤ 2 * b + 1 ∧ Value.int .i64 (Z - 1) = .int .i64 ((b : Int) - i') ∧ RInv w.heap.size w u (P2 ++ allZ n b W X Y i') wz := fun u wz hh => by
                        have hz := HZ.out
                        refine ⟨iz + 1, by omega, by congr 1; omega, ?_⟩
                        rw [HS3.out, ← List.append_assoc, HP3.out]
                        exact hh
                      have D0 := Lib.hid done0
                      clear done0
                      by_cases c0 : W * W + X * X + Y * Y + Z * Z = 4 * n
                      rotate_left
                      · have t0 : (W * W + X * X + Y * Y + Z * Z == 4 * (n : Int)) = false := by simpa using c0
                        have hc : cellA n W X Y Z = [] := if_neg fun h => c0 h.1
                        have HC := Lib.hid hc
                        clear tm tn c0 hc
                        go_wp2
                        go_roundw
                        case rel => exact D0.out _ _ (by rw [HC.out, List.append_nil]; exact HI.out.alloc _)
                        case measure => simp [intOf]; omega
                      have t0 : (W * W + X * X + Y * Y + Z * Z == 4 * (n : Int)) = true := by simpa using c0
                      by_cases c1 : (W - X) % 2 = 0
                      rotate_left
                      · have t1 := tn _ c1
                        have hc : cellA n W X Y Z = [] := if_neg fun h => c1 h.2.1
                        have HC := Lib.hid hc
                        clear tm tn c0 c1 hc
                        go_wp2_with (first | (go_at_call 114; with_reducible refine (rmod_in _ _ (by omega) (by omega) (by omega) (by omega) _).mono ?_; rintro e w' ⟨rfl, rfl⟩))
                        go_roundw
                        case rel => exact D0.out _ _ (by rw [HC.out, List.append_nil]; exact HI.out.alloc _)
                        case measure => simp [intOf]; omega
                      have t1 := tm _ c1
                      by_cases c2 : (W - Y) % 2 = 0
                      rotate_left
                      · have t2 := tn _ c2
                        have hc : cellA n W X Y Z = [] := if_neg fun h => c2 h.2.2.1
                        have HC := Lib.hid hc
                        clear tm tn c0 c1 c2 hc
                        go_wp2_with (first | (go_at_call 114; with_reducible refine (rmod_in _ _ (by omega) (by omega) (by omega) (by omega) _).mono ?_; rintro e w' ⟨rfl, rfl⟩))
                        go_roundw
                        case rel => exact D0.out _ _ (by rw [HC.out, List.append_nil]; exact HI.out.alloc _)
                        case measure => simp [intOf]; omega
                      have t2 := tm _ c2
                      by_cases c3 : (W - Z) % 2 = 0
                      rotate_left
                      · have t3 := tn _ c3
                        have hc : cellA n W X Y Z = [] := if_neg fun h => c3 h.2.2.2
                        have HC := Lib.hid hc
                        clear tm tn c0 c1 c2 c3 hc
                        go_wp2_with (first | (go_at_call 114; with_reducible refine (rmod_in _ _ (by omega) (by omega) (by omega) (by omega) _).mono ?_; rintro e w' ⟨rfl, rfl⟩))
                        go_roundw
                        case rel => exact D0.out _ _ (by rw [HC.out, List.append_nil]; exact HI.out.alloc _)
                        case measure => simp [intOf]; omega
                      have t3 := tm _ c3
                      have hc : cellA n W X Y Z = [⟨W, X, Y, Z⟩] := if_pos ⟨c0, c1, c2, c3⟩
                      have HC := Lib.hid hc
                      clear tm tn c0 c1 c2 c3 hc
                      go_wp2_with (first | (go_at_call 114; with_reducible refine (rmod_in _ _ (by omega) (by omega) (by omega) (by omega) _).mono ?_; rintro e w' ⟨rfl, rfl⟩) | (at_builtin; go_must (refine append_rhur (HI.out.1.alloc _) (w0 := w) (HI.out.2.1.alloc HI.out.2.2 _) (by have := HI.out.2.2; simp; omega) ⟨W, X, Y, Z⟩ (by omega) rfl (.tmp 92) (.tmp 94) rfl (by rfl) (by rfl) (by simp) ?_); intro v2 w2 hown2 hB2 hz2))
                      go_roundw
                      case rel => exact D0.out _ _ (by rw [HC.out]; exact ⟨hown2, hB2, hz2⟩)
                      case measure => simp [intOf]; omega

                    · go_wp2
                      go_roundw
                      case rel =>
                        have hie : iz = 2 * b + 1 := by omega
                        subst hie
                        refine ⟨iy + 1, by omega, by have := HY.out; congr 1; omega, ?_⟩
                        have h := HI.out
                        rw [← HP2.out, List.append_assoc] at h
                        rw [HS2.out]
                        exact h
                      case measure => simp [intOf]; omega
                · go_wp2
                  go_roundw
                  case rel =>
                    have hie : iy = 2 * b + 1 := by omega
                    subst hie
                    refine ⟨ix + 1, by omega, by have := HX.out; congr 1; omega, ?_⟩
                    have h := HI.out
                    rw [← HP1.out, List.append_assoc] at h
                    rw [HS1.out]
                    exact h
                  case measure => simp [intOf]; omega
            · go_wp2
              go_roundw
              case rel =>
                have hie : ix = 2 * b + 1 := by omega
                subst hie
                refine ⟨iw + 1, by omega, by have := HW.out; congr 1; omega, ?_⟩
                have h := HI.out
                rw [HS0.out]
                exact h
              case measure => simp [intOf]; omega
        · go_wp2
          go_ret
          have hie : iw = 2 * b + 1 := by omega
          subst hie
          refine ⟨u3, rfl, ?_, HI.out.2.1⟩
          have h := HI.out.1
          unfold allH
          rw [← hup.out, Nat.add_sub_cancel]
          exact h
end Go.Proofs.Ythajaabgcbjfkaa
