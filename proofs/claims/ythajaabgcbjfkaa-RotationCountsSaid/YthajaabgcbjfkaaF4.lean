/- Contract: the reference's count. -/
import Derived.Test.YthajaabgcbjfkaaF3
import Derived.Test.YthajaabgcbjfkaaX8
namespace Go.Proofs.Ythajaabgcbjfkaa
open Go.RowKit Go.BigFrame
attribute [local go_sem ↓] Go.wp_at_zero Go.wp_at_succ

set_option maxRecDepth 10000 in
set_option maxHeartbeats 2000000 in
theorem rcount_one (x : Qt) (a : Addr) (cap : Nat) (w : World) :
    Calls Try.prog 63 #[.agg #[.int .i64 x.w, .int .i64 x.x, .int .i64 x.y, .int .i64 x.z], .slice (some a) 1 cap] w fun e w' => e = .returned (.int .i64 1) ∧ Below w.heap.size w w' := by
  go_enter Try.func63, Try.ntmps63
  go_wp2_with fail
  go_ret
  exact ⟨rfl, by (repeat (first | with_reducible assumption | with_reducible exact Below.refl _ _ | with_reducible refine Below.drewN ?_ _ | with_reducible refine Below.drew ?_ | with_reducible refine Below.alloc ?_ (by first | omega | (simp; done) | (simp; omega)) _ | with_reducible refine Below.setCell ?_ (by first | omega | (simp; done) | (simp; omega)) _ | with_reducible refine below_more _ _ ?_ (by first | omega | (simp; done) | (simp; omega))))⟩
/-- Sums of the first counts, of those that divide. -/
def sumB (b : Nat → Bool) (R : Nat → Int) : Nat → Int
  | 0 => 0
  | k + 1 => if b k then sumB b R k + 24 * R k else sumB b R k
theorem sumB_bd {b : Nat → Bool} {R : Nat → Int} {n : Nat} (h : ∀ k, k < n → 0 ≤ R k ∧ R k ≤ 1358954496) : ∀ k, k ≤ n → 0 ≤ sumB b R k ∧ sumB b R k ≤ 32614907904 * k
  | 0, _ => ⟨Int.le_refl 0, Int.le_refl _⟩
  | k + 1, hk => by
    have h1 := sumB_bd (b := b) h k (by omega)
    have h2 := h k (by omega)
    show 0 ≤ (if b k then sumB b R k + 24 * R k else sumB b R k) ∧ (if b k then sumB b R k + 24 * R k else sumB b R k) ≤ 32614907904 * ((k + 1 : Nat) : Int)
    split <;> omega
theorem below_dm {B : Nat} {a W : World} {g : Nat × Array Obj} (h : Below B a (more W g)) : Below B a (more W (g.1 + 1, g.2)) := h.drew
theorem Ext.trans_more {W w : World} (h : Ext W w) {g : Nat × Array Obj} : Ext W (more w g) := below_more _ g h h.size
set_option maxRecDepth 10000 in
set_option maxHeartbeats 16000000 in
theorem rcount_step (x : Qt) (p : Int) (n cap : Nat) (a : Addr) (w : World) (hn : 1 ≤ n ∧ n ≤ 6) (hcap : n + 1 ≤ cap) (h0 : w.cell? a = some (.int .i64 p)) (L : List Qt) (hL1 : 1 ≤ L.length) (hL8 : L.length ≤ 8) (b : Nat → Bool) (T : Nat → Qt) (R : Nat → Int) (hR : ∀ k, k < L.length → 0 ≤ R k ∧ R k ≤ 1358954496)
    (cofn : ∀ w, Calls Try.prog 28 #[.int .i64 p] w fun e w' => ∃ v, e = .returned v ∧ OwnR w' w.heap.size v L ∧ Below w.heap.size w w')
    (cleft : ∀ (k : Nat) (d : Qt), L[k]? = some d → ∀ w, Calls Try.prog 32 #[.agg #[.int .i64 x.w, .int .i64 x.x, .int .i64 x.y, .int .i64 x.z], .agg #[.int .i64 d.w, .int .i64 d.x, .int .i64 d.y, .int .i64 d.z]] w fun e w' => e = .returned (.tuple #[.agg #[.int .i64 (T k).w, .int .i64 (T k).x, .int .i64 (T k).y, .int .i64 (T k).z], .bool (b k)]) ∧ Below w.heap.size w w')
    (crec : ∀ k, k < L.length → b k = true → ∀ W, Below w.heap.size w W → Calls Try.prog 63 #[.agg #[.int .i64 (T k).w, .int .i64 (T k).x, .int .i64 (T k).y, .int .i64 (T k).z], .slice (some ⟨a.block, a.off + 1, none⟩) n (cap - 1)] W fun e w' => e = .returned (.int .i64 (R k)) ∧ Below W.heap.size W w') :
    Calls Try.prog 63 #[.agg #[.int .i64 x.w, .int .i64 x.x, .int .i64 x.y, .int .i64 x.z], .slice (some a) (n + 1) cap] w fun e w' => e = .returned (.int .i64 (sumB b R L.length)) ∧ Below w.heap.size w w' := by
  have COFN := Lib.hid cofn; have CLEFT : Hid _ := cleft; have CREC : Hid _ := crec; have HR : Hid _ := hR
  have SB : Hid _ := sumB_bd (b := b) hR
  clear cofn cleft crec hR
  have n1 : ((n : Int) + 1 == 1) = false := by simp; omega
  have n2 : ¬ n = 0 := by omega
  have c1 : 1 ≤ cap := by omega
  have c2 : 1 < cap := by omega
  have c3 : ¬ cap = 1 := by omega
  have c4 : ¬ 1 = cap := by omega
  have c5 : (1 : Int) ≤ (n : Int) + 1 := by omega
  have c6 : (n : Int) + 1 ≤ (cap : Int) := by omega
  obtain ⟨len, hlen⟩ : ∃ len, len = L.length := ⟨_, rfl⟩
  rw [← hlen] at hL1 hL8 ⊢
  have HLEN := Lib.hid hlen
  clear hlen
  have COF : Hid (∀ w, Calls Try.prog 28 #[.int .i64 p] w fun e w' => ∃ g c, e = .returned (.slice (some ⟨g, 0, none⟩) len c) ∧ HRow w' g L ∧ Below w.heap.size w w') := fun w => (COFN.out w).mono (by
    rintro e w' ⟨v, rfl, hown, hb⟩
    obtain ⟨g, c, rfl, h⟩ := hown.hrow (by rw [← HLEN.out]; omega)
    exact ⟨g, c, by rw [HLEN.out], h, hb⟩)
  clear COFN
  have h0a : (w.alloc (.cells #[.int .i64 x.w, .int .i64 x.x, .int .i64 x.y, .int .i64 x.z] 32)).cell? a = some (.int .i64 p) := by
    have := World.block_lt_of_cell? w a h0
    rw [(Below.alloc (Below.refl w.heap.size w) (Nat.le_refl _) _).cell (p := a) this]; exact h0
  go_enter Try.func63, Try.ntmps63
  go_wp2_with (first | (go_at_call 28; (with_reducible refine (COF.out _).mono ?_); rintro e W0 ⟨g4, cap4, rfl, hr4, hb4⟩; have HRW := Lib.hid hr4; have HBW := Lib.hid hb4; clear hr4 hb4))
  have hb4 := HBW.out
  have hB0 : Below w.heap.size w W0 := Below.trans (by (repeat (first | with_reducible assumption | with_reducible exact Below.refl _ _ | with_reducible refine Below.drewN ?_ _ | with_reducible refine Below.drew ?_ | with_reducible refine Below.alloc ?_ (by first | omega | (simp; done) | (simp; omega)) _ | with_reducible refine Below.setCell ?_ (by first | omega | (simp; done) | (simp; omega)) _ | with_reducible refine below_more _ _ ?_ (by first | omega | (simp; done) | (simp; omega))))) (hb4.mono (by simp))
  have h1 : W0.cell? ⟨w.heap.size, 0, none⟩ = some (.int .i64 x.w) := (hb4.cell (by simp)).trans (by go_simp)
  have h2 : W0.cell? ⟨w.heap.size, 1, none⟩ = some (.int .i64 x.x) := (hb4.cell (by simp)).trans (by go_simp)
  have h3 : W0.cell? ⟨w.heap.size, 2, none⟩ = some (.int .i64 x.y) := (hb4.cell (by simp)).trans (by go_simp)
  have h4 : W0.cell? ⟨w.heap.size, 3, none⟩ = some (.int .i64 x.z) := (hb4.cell (by simp)).trans (by go_simp)
  have hwl : w.heap.size < W0.heap.size := Nat.lt_of_lt_of_le (by simp) hb4.size
  have HB0 := Lib.hid hB0
  clear hb4 hB0 HBW h0 h0a COF
  go_wp2_with fail
  go_loopw [5, 7] (fun s i wr => ∃ k : Nat, k ≤ len ∧ i = .int .i64 k ∧ s = .int .i64 (sumB b R k) ∧ Ext W0 wr) (fun _ i _ => len - (intOf i).toNat)
  case atStart => exact ⟨0, by omega, rfl, rfl, Ext.refl _⟩
  case round =>
    obtain ⟨k, hk, rfl, rfl, hext⟩ := hrel
    obtain ⟨gx, rfl⟩ := more_of_below (Ext.below hext)
    clear hext
    by_cases hkn : k < len
    · obtain ⟨d, hd⟩ : ∃ d, L[k]? = some d := ⟨L[k]'(by rw [← HLEN.out]; exact hkn), List.getElem?_eq_getElem _⟩
      obtain ⟨d0, d1, d2, d3⟩ := HRW.out.at_ k d hd
      have lg := HRW.out.lt
      have kn : (k : Int) < (len : Int) := by omega
      have LE := Lib.hid (CLEFT.out k d hd)
      have RE : Hid (b k = true → _) := CREC.out k (by rw [← HLEN.out]; exact hkn)
      have sb := SB.out k (by rw [← HLEN.out]; omega)
      have rb := HR.out k (by rw [← HLEN.out]; exact hkn)
      have hs : sumB b R (k + 1) = if b k then sumB b R k + 24 * R k else sumB b R k := rfl
      have HS := Lib.hid hs
      clear hd hs CLEFT CREC SB HR
      generalize sumB b R k = s at *
      generalize R k = r at *
      generalize T k = t at *
      generalize b k = bk at *
      go_upto_region 8 with fail
      go_cut [8, 9] from 17 to 39 (fun s8 s9 wx => Below (more W0 gx).heap.size (more W0 gx) wx ∧ ∃ b8, s8 = .pointer (some ⟨b8, 0, none⟩) ∧ s9 = .bool bk ∧ wx.cell? ⟨b8, 0, none⟩ = some (.int .i64 t.w) ∧ wx.cell? ⟨b8, 1, none⟩ = some (.int .i64 t.x) ∧ wx.cell? ⟨b8, 2, none⟩ = some (.int .i64 t.y) ∧ wx.cell? ⟨b8, 3, none⟩ = some (.int .i64 t.z) ∧ b8 < wx.heap.size)
      case first =>
        go_region_with ((go_at_call 32; with_reducible refine (LE.out _).mono ?_; rintro e w' ⟨rfl, hb9⟩; obtain ⟨g9, rfl⟩ := more_of_below hb9; clear hb9))
        all_goals (clear h1 h2 h3 h4 d0 d1 d2 d3 LE)
        all_goals (go_wp2_with fail; go_meet; refine ⟨by (repeat (first | with_reducible assumption | with_reducible exact Below.refl _ _ | with_reducible refine below_dm ?_ | with_reducible refine Below.drew ?_ | with_reducible refine Below.alloc ?_ (by first | omega | (simp; done) | (simp; omega)) _ | with_reducible refine Below.setCell ?_ (by first | omega | (simp; done) | (simp; omega)) _ | with_reducible refine below_more _ _ ?_ (by first | omega | (simp; done) | (simp; omega)))), _, rfl, rfl, ?_, ?_, ?_, ?_, ?_⟩)
        all_goals (first | (go_simp; done) | omega | (simp only [size_more_eq, World.size_alloc, World.size_setCell]; omega) | (simp; omega))
      case rest =>
        clear h1 h2 h3 h4 d0 d1 d2 d3 LE
        obtain ⟨hb, b8, rfl, rfl, t0, t1, t2, t3, l8⟩ := hcut
        have hW : Ext W0 wc := Below.trans (below_more (B := W0.heap.size) _ gx (Below.refl _ _) (Nat.le_refl _)) (hb.mono (by simp))
        have hWB : Below w.heap.size w wc := Below.trans HB0.out (Below.mono (Ext.below hW) (by omega))
        have HW := Lib.hid hW
        have HWB := Lib.hid hWB
        clear hb hW hWB
        cases bk
        · clear RE t0 t1 t2 t3
          go_wp2_with fail
          go_roundw
          case rel => exact ⟨k + 1, by omega, by go_num, by rw [HS.out]; rfl, HW.out⟩
          case measure => simp [intOf]; omega
        · have RE2 : Hid (∀ W, Ext wc W → Calls Try.prog 63 #[.agg #[.int .i64 t.w, .int .i64 t.x, .int .i64 t.y, .int .i64 t.z], .slice (some ⟨a.block, a.off + 1, none⟩) n (cap - 1)] W fun e w' => e = .returned (.int .i64 r) ∧ Below W.heap.size W w') := fun W h => RE.out rfl W (HWB.out.trans (Below.mono (Ext.below h) HWB.out.size))
          have m1 : IntKind.i64.wrap (24 * r) = 24 * r := IntWalk.i64_in _ (by omega)
          have m2 : IntKind.i64.wrap (s + 24 * r) = s + 24 * r := IntWalk.i64_in _ (by omega)
          clear RE
          go_wp2_with fail
          (refine wp_region_quiet (C := Ext _) (by kernel_rfl) (by kernel_rfl) (Ext.start _) ?_; simp only []; (repeat (refine wpQuiet_step (fun K hK => ?_); go_simp; (try go_bits); apply Exists.intro; refine ⟨fun w' hw' => ?_, hK _ ?_⟩; (focus (first | with_reducible exact rfl | (go_at_call 63; (with_reducible exact Ext.call hw' (RE2.out _ hw'))) | (obtain ⟨gx, rfl⟩ := more_of_below (Ext.below hw'); go_simp; exact rfl))); clear hK K)); refine wpQuiet_nil ?_; intro w7 hw7; have hb7 := Ext.below hw7; clear hw7; obtain ⟨g7, rfl⟩ := more_of_below hb7; clear hb7)
          clear t0 t1 t2 t3
          go_wp2_with fail
          go_roundw
          case rel =>
            have hW := HW.out
            exact ⟨k + 1, by omega, by go_num, by rw [HS.out]; rfl, Ext.trans_more hW⟩
          case measure => simp [intOf]; omega
    · obtain rfl : k = len := by omega
      clear CLEFT CREC SB HR h1 h2 h3 h4
      go_wp2_with fail
      go_ret
      have hB := HB0.out
      exact ⟨rfl, Below.trans hB (Below.mono (below_more (B := W0.heap.size) _ gx (Below.refl _ _) (Nat.le_refl _)) (by omega))⟩
end Go.Proofs.Ythajaabgcbjfkaa
