/- Contracts of the reference: Reduced, SpaceErr, Coords, Whole, norm, LowestRotation. -/
import Derived.Test.YthajaabgcbjfkaaDoorT0
import Derived.Test.YthajaabgcbjfkaaDoorR1
import Derived.Test.YthajaabgcbjfkaaDoorM1
namespace Go.Proofs.YthajaabgcbjfkaaDoor
open Go.RowKit

/-- The divisor with its sign, one coordinate further to the front. -/
def sgnG (x u G : Int) : Int := if x = 0 then u else if 0 < x then G else -G
theorem sgnG_zero (u G : Int) : sgnG 0 u G = u := by unfold sgnG; rw [if_pos rfl]
theorem sgnG_pos {x : Int} (u G : Int) (h : 0 < x) : sgnG x u G = G := by unfold sgnG; rw [if_neg (by omega), if_pos h]
theorem sgnG_neg {x : Int} (u G : Int) (h : x < 0) : sgnG x u G = -G := by unfold sgnG; rw [if_neg (by omega), if_neg (by omega)]
theorem sgnG_or {x u G : Int} (h : u = G ∨ u = -G) : sgnG x u G = G ∨ sgnG x u G = -G := by
  unfold sgnG; split
  · exact h
  · split
    · exact .inl rfl
    · exact .inr rfl
def Qt.u3 (a : Qt) : Int := sgnG a.z a.gq a.gq
def Qt.u2 (a : Qt) : Int := sgnG a.y a.u3 a.gq
def Qt.u1 (a : Qt) : Int := sgnG a.x a.u2 a.gq
def Qt.u0 (a : Qt) : Int := sgnG a.w a.u1 a.gq
theorem pos_of_mul {g a : Int} (hg : 1 ≤ g) : (0 < g * a ↔ 0 < a) ∧ (g * a < 0 ↔ a < 0) ∧ (g * a = 0 ↔ a = 0) := by
  have p1 : 0 < a → 0 < g * a := fun h => Int.mul_pos (by omega) h
  have p2 : a < 0 → g * a < 0 := fun h => Int.mul_neg_of_pos_of_neg (by omega) h
  have p3 : a = 0 → g * a = 0 := fun h => by rw [h, Int.mul_zero]
  refine ⟨⟨fun h => ?_, p1⟩, ⟨fun h => ?_, p2⟩, ⟨fun h => ?_, p3⟩⟩
  all_goals (rcases Int.lt_trichotomy a 0 with h' | h' | h' <;> first | exact h' | (have := p1 h'; omega) | (have := p2 h'; omega) | (have := p3 h'; omega))
theorem Qt.red_u0 {a : Qt} (h : a.eqb ⟨0, 0, 0, 0⟩ = false) : a.red = ⟨a.w.tdiv a.u0, a.x.tdiv a.u0, a.y.tdiv a.u0, a.z.tdiv a.u0⟩ := by
  have hg : 1 ≤ a.gq := g4_pos h
  obtain ⟨e0, e1, e2, e3⟩ := Qt.over_g4 a
  change a.w = a.gq * (a.over a.gq).w at e0
  change a.x = a.gq * (a.over a.gq).x at e1
  change a.y = a.gq * (a.over a.gq).y at e2
  change a.z = a.gq * (a.over a.gq).z at e3
  have hr : a.red = if (a.over a.gq).negb then (a.over a.gq).neg else a.over a.gq := rfl
  have ho : a.over a.gq = ⟨a.w.tdiv a.gq, a.x.tdiv a.gq, a.y.tdiv a.gq, a.z.tdiv a.gq⟩ := rfl
  have k0 := pos_of_mul (a := (a.over a.gq).w) hg; have k1 := pos_of_mul (a := (a.over a.gq).x) hg; have k2 := pos_of_mul (a := (a.over a.gq).y) hg; have k3 := pos_of_mul (a := (a.over a.gq).z) hg
  rw [← e0] at k0; rw [← e1] at k1; rw [← e2] at k2; rw [← e3] at k3
  have hu : (a.u0 = -a.gq ∧ (a.over a.gq).negb = true) ∨ (a.u0 = a.gq ∧ (a.over a.gq).negb = false) := by
    unfold Qt.u0 Qt.u1 Qt.u2 Qt.u3 Qt.negb
    generalize a.over a.gq = o at *
    generalize a.gq = G at *
    clear e0 e1 e2 e3 hr ho
    rcases Int.lt_trichotomy a.w 0 with h0 | h0 | h0
    · rw [sgnG_neg _ _ h0]; left; refine ⟨rfl, ?_⟩; simp only [Bool.or_eq_true, Bool.and_eq_true, decide_eq_true_eq]; omega
    · rw [h0, sgnG_zero]
      rcases Int.lt_trichotomy a.x 0 with h1 | h1 | h1
      · rw [sgnG_neg _ _ h1]; left; refine ⟨rfl, ?_⟩; simp only [Bool.or_eq_true, Bool.and_eq_true, decide_eq_true_eq]; omega
      · rw [h1, sgnG_zero]
        rcases Int.lt_trichotomy a.y 0 with h2 | h2 | h2
        · rw [sgnG_neg _ _ h2]; left; refine ⟨rfl, ?_⟩; simp only [Bool.or_eq_true, Bool.and_eq_true, decide_eq_true_eq]; omega
        · rw [h2, sgnG_zero]
          rcases Int.lt_trichotomy a.z 0 with h3 | h3 | h3
          · rw [sgnG_neg _ _ h3]; left; refine ⟨rfl, ?_⟩; simp only [Bool.or_eq_true, Bool.and_eq_true, decide_eq_true_eq]; omega
          · rw [h3, sgnG_zero]; right; refine ⟨rfl, ?_⟩; simp only [Bool.or_eq_false_iff, Bool.and_eq_false_iff, decide_eq_false_iff_not]; omega
          · rw [sgnG_pos _ _ h3]; right; refine ⟨rfl, ?_⟩; simp only [Bool.or_eq_false_iff, Bool.and_eq_false_iff, decide_eq_false_iff_not]; omega
        · rw [sgnG_pos _ _ h2]; right; refine ⟨rfl, ?_⟩; simp only [Bool.or_eq_false_iff, Bool.and_eq_false_iff, decide_eq_false_iff_not]; omega
      · rw [sgnG_pos _ _ h1]; right; refine ⟨rfl, ?_⟩; simp only [Bool.or_eq_false_iff, Bool.and_eq_false_iff, decide_eq_false_iff_not]; omega
    · rw [sgnG_pos _ _ h0]; right; refine ⟨rfl, ?_⟩; simp only [Bool.or_eq_false_iff, Bool.and_eq_false_iff, decide_eq_false_iff_not]; omega
  rcases hu with ⟨hu, hn⟩ | ⟨hu, hn⟩
  · rw [hr, hn, hu, if_pos rfl, ho]
    simp only [Qt.neg, Int.tdiv_neg]
  · rw [hr, hn, hu, ho]; rfl

def SgInv (G u3 u2 u1 u0 : Int) (g i : Value) : Prop := (g = .int .i64 G ∧ i = .int .i64 3) ∨ (g = .int .i64 u3 ∧ i = .int .i64 2) ∨ (g = .int .i64 u2 ∧ i = .int .i64 1) ∨ (g = .int .i64 u1 ∧ i = .int .i64 0) ∨ (g = .int .i64 u0 ∧ i = .int .i64 (-1))
theorem sgInv_eq {G u3 u2 u1 u0 a b : Int} {i : Value} (h : a = b) (k : SgInv G u3 u2 u1 u0 (.int .i64 b) i) : SgInv G u3 u2 u1 u0 (.int .i64 a) i := h ▸ k
set_option maxRecDepth 10000 in
set_option maxHeartbeats 4000000 in
theorem rreduced_walk (a : Qt) (x0 x1 G u3 u2 u1 u0 : Int) (hg : 1 ≤ G ∧ G ≤ 4000000000000000000) (hi : a.InR)
    (h3 : u3 = sgnG a.z G G) (h2 : u2 = sgnG a.y u3 G) (h1 : u1 = sgnG a.x u2 G) (h0 : u0 = sgnG a.w u1 G)
    (g0 : ∀ w, Calls Tryd.prog 31 #[.int .i64 a.w, .int .i64 a.x] w fun e w' => e = .returned (.int .i64 x0) ∧ Below w.heap.size w w')
    (gg1 : ∀ w, Calls Tryd.prog 31 #[.int .i64 a.y, .int .i64 a.z] w fun e w' => e = .returned (.int .i64 x1) ∧ Below w.heap.size w w')
    (gg2 : ∀ w, Calls Tryd.prog 31 #[.int .i64 x0, .int .i64 x1] w fun e w' => e = .returned (.int .i64 G) ∧ Below w.heap.size w w') (w : World) :
    Calls Tryd.prog 10 #[.agg #[.int .i64 a.w, .int .i64 a.x, .int .i64 a.y, .int .i64 a.z]] w fun e w' => e = .returned (.agg #[.int .i64 (a.w.tdiv u0), .int .i64 (a.x.tdiv u0), .int .i64 (a.y.tdiv u0), .int .i64 (a.z.tdiv u0)]) ∧ Below w.heap.size w w' := by
  have o3 : u3 = G ∨ u3 = -G := h3 ▸ sgnG_or (.inl rfl)
  have o2 : u2 = G ∨ u2 = -G := h2 ▸ sgnG_or o3
  have o1 : u1 = G ∨ u1 = -G := h1 ▸ sgnG_or o2
  have o0 : u0 = G ∨ u0 = -G := h0 ▸ sgnG_or o1
  have O3 := Lib.hid o3; have O2 := Lib.hid o2; have O1 := Lib.hid o1; have O0 := Lib.hid o0
  have H3 := Lib.hid h3; have H2 := Lib.hid h2; have H1 := Lib.hid h1; have H0 := Lib.hid h0
  have G0 := Lib.hid g0; have G1 := Lib.hid gg1; have G2 := Lib.hid gg2
  have dd : ∀ v : Int, -4000000000000000000 ≤ v ∧ v ≤ 4000000000000000000 → -4000000000000000000 ≤ v.tdiv u0 ∧ v.tdiv u0 ≤ 4000000000000000000 := fun v hv => by
    have := Qt.tdiv_bd v G _ (by omega) hg.1 hv
    rcases o0 with e | e <;> rw [e]
    · exact this
    · rw [Int.tdiv_neg]; omega
  obtain ⟨i0, i1, i2, i3⟩ := hi
  have D0 := Lib.hid (dd _ i0); have D1 := Lib.hid (dd _ i1); have D2 := Lib.hid (dd _ i2); have D3 := Lib.hid (dd _ i3)
  obtain ⟨aw, ax, ay, az⟩ := a
  simp only at *
  obtain ⟨l0, l1⟩ := i0; obtain ⟨l2, l3⟩ := i1; obtain ⟨l4, l5⟩ := i2; obtain ⟨l6, l7⟩ := i3
  obtain ⟨hg1, hg2⟩ := hg
  have b3 : -4000000000000000000 ≤ u3 ∧ u3 ≤ 4000000000000000000 := by omega
  have b2 : -4000000000000000000 ≤ u2 ∧ u2 ≤ 4000000000000000000 := by omega
  have b1 : -4000000000000000000 ≤ u1 ∧ u1 ≤ 4000000000000000000 := by omega
  have n0 : ¬ u0 = 0 := by omega
  clear o3 o2 o1 o0 h3 h2 h1 h0 g0 gg1 gg2 dd
  go_enter Tryd.func10, Tryd.ntmps10
  go_wp2_with fail
  (refine wp_region_calm_tail 11 (Ext _) (by kernel_rfl) (by kernel_rfl) (Ext.start _) ?_; simp only [List.take_succ_cons, List.take_zero, List.drop_succ_cons, List.drop_zero]; (repeat (refine wpQuiet_step (fun K hK => ?_); go_simp; (try go_bits); apply Exists.intro; refine ⟨fun w' hw' => ?_, hK _ ?_⟩; (focus (first | with_reducible exact rfl | (go_at_call 31; (first | with_reducible exact Ext.call hw' (G0.out _) | with_reducible exact Ext.call hw' (G1.out _) | with_reducible exact Ext.call hw' (G2.out _))) | (obtain ⟨gx, rfl⟩ := more_of_below (Ext.below hw'); go_simp; exact rfl))); clear hK K)); refine wpQuiet_nil ?_; intro w1 hw1; have hb1 := Ext.below hw1; clear hw1; obtain ⟨g1, rfl⟩ := more_of_below hb1; clear hb1)
  clear G0 G1 G2
  go_wp2_with fail
  go_loop [3, 4] (fun g i => SgInv G u3 u2 u1 u0 g i) (fun _ i => (intOf i + 1).toNat)
  case atStart => exact .inl ⟨rfl, rfl⟩
  case round =>
    rcases hrel with ⟨rfl, rfl⟩ | ⟨rfl, rfl⟩ | ⟨rfl, rfl⟩ | ⟨rfl, rfl⟩ | ⟨rfl, rfl⟩
    · rcases Int.lt_trichotomy az 0 with hx | hx | hx
      · have E := Lib.hid (show u3 = -G by rw [H3.out, sgnG_neg _ _ hx])
        have nx : (az != 0) = true := by rw [bne_iff_ne]; omega
        have dx : decide (0 < az) = false := by simp; omega
        clear hx
        have dg : decide (0 < G) = true := by simp; omega
        go_wp2_with fail
        go_round
        case rel => exact sgInv_eq (by have := E.out; omega) (.inr (.inl ⟨rfl, rfl⟩))
        case measure => first | (simp [intOf]; done) | (simp [intOf]; omega)
      · have E := Lib.hid (show u3 = G by rw [H3.out, hx, sgnG_zero])
        have hx0 : (az != 0) = false := by simpa using hx
        have HX := Lib.hid hx
        clear hx
        go_wp2_with fail
        go_round
        case rel => exact sgInv_eq (by have := E.out; omega) (.inr (.inl ⟨rfl, rfl⟩))
        case measure => first | (simp [intOf]; done) | (simp [intOf]; omega)
      · have E := Lib.hid (show u3 = G by rw [H3.out, sgnG_pos _ _ hx])
        have nx : (az != 0) = true := by rw [bne_iff_ne]; omega
        have dx : decide (0 < az) = true := by simp; omega
        clear hx
        have dg : decide (0 < G) = true := by simp; omega
        go_wp2_with fail
        go_round
        case rel => exact sgInv_eq (by have := E.out; omega) (.inr (.inl ⟨rfl, rfl⟩))
        case measure => first | (simp [intOf]; done) | (simp [intOf]; omega)
    · rcases Int.lt_trichotomy ay 0 with hx | hx | hx
      · have E := Lib.hid (show u2 = -G by rw [H2.out, sgnG_neg _ _ hx])
        have nx : (ay != 0) = true := by rw [bne_iff_ne]; omega
        have dx : decide (0 < ay) = false := by simp; omega
        clear hx
        rcases O3.out with hu | hu
        · have dg : decide (0 < u3) = true := by simp; omega
          have HU := Lib.hid hu
          clear hu
          go_wp2_with fail
          go_round
          case rel => exact sgInv_eq (by have := E.out; have := HU.out; omega) (.inr (.inr (.inl ⟨rfl, rfl⟩)))
          case measure => first | (simp [intOf]; done) | (simp [intOf]; omega)
        · have dg : decide (0 < u3) = false := by simp; omega
          have HU := Lib.hid hu
          clear hu
          go_wp2_with fail
          go_round
          case rel => exact sgInv_eq (by have := E.out; have := HU.out; omega) (.inr (.inr (.inl ⟨rfl, rfl⟩)))
          case measure => first | (simp [intOf]; done) | (simp [intOf]; omega)
      · have E := Lib.hid (show u2 = u3 by rw [H2.out, hx, sgnG_zero])
        have hx0 : (ay != 0) = false := by simpa using hx
        have HX := Lib.hid hx
        clear hx
        go_wp2_with fail
        go_round
        case rel => exact sgInv_eq (by have := E.out; omega) (.inr (.inr (.inl ⟨rfl, rfl⟩)))
        case measure => first | (simp [intOf]; done) | (simp [intOf]; omega)
      · have E := Lib.hid (show u2 = G by rw [H2.out, sgnG_pos _ _ hx])
        have nx : (ay != 0) = true := by rw [bne_iff_ne]; omega
        have dx : decide (0 < ay) = true := by simp; omega
        clear hx
        rcases O3.out with hu | hu
        · have dg : decide (0 < u3) = true := by simp; omega
          have HU := Lib.hid hu
          clear hu
          go_wp2_with fail
          go_round
          case rel => exact sgInv_eq (by have := E.out; have := HU.out; omega) (.inr (.inr (.inl ⟨rfl, rfl⟩)))
          case measure => first | (simp [intOf]; done) | (simp [intOf]; omega)
        · have dg : decide (0 < u3) = false := by simp; omega
          have HU := Lib.hid hu
          clear hu
          go_wp2_with fail
          go_round
          case rel => exact sgInv_eq (by have := E.out; have := HU.out; omega) (.inr (.inr (.inl ⟨rfl, rfl⟩)))
          case measure => first | (simp [intOf]; done) | (simp [intOf]; omega)
    · rcases Int.lt_trichotomy ax 0 with hx | hx | hx
      · have E := Lib.hid (show u1 = -G by rw [H1.out, sgnG_neg _ _ hx])
        have nx : (ax != 0) = true := by rw [bne_iff_ne]; omega
        have dx : decide (0 < ax) = false := by simp; omega
        clear hx
        rcases O2.out with hu | hu
        · have dg : decide (0 < u2) = true := by simp; omega
          have HU := Lib.hid hu
          clear hu
          go_wp2_with fail
          go_round
          case rel => exact sgInv_eq (by have := E.out; have := HU.out; omega) (.inr (.inr (.inr (.inl ⟨rfl, rfl⟩))))
          case measure => first | (simp [intOf]; done) | (simp [intOf]; omega)
        · have dg : decide (0 < u2) = false := by simp; omega
          have HU := Lib.hid hu
          clear hu
          go_wp2_with fail
          go_round
          case rel => exact sgInv_eq (by have := E.out; have := HU.out; omega) (.inr (.inr (.inr (.inl ⟨rfl, rfl⟩))))
          case measure => first | (simp [intOf]; done) | (simp [intOf]; omega)
      · have E := Lib.hid (show u1 = u2 by rw [H1.out, hx, sgnG_zero])
        have hx0 : (ax != 0) = false := by simpa using hx
        have HX := Lib.hid hx
        clear hx
        go_wp2_with fail
        go_round
        case rel => exact sgInv_eq (by have := E.out; omega) (.inr (.inr (.inr (.inl ⟨rfl, rfl⟩))))
        case measure => first | (simp [intOf]; done) | (simp [intOf]; omega)
      · have E := Lib.hid (show u1 = G by rw [H1.out, sgnG_pos _ _ hx])
        have nx : (ax != 0) = true := by rw [bne_iff_ne]; omega
        have dx : decide (0 < ax) = true := by simp; omega
        clear hx
        rcases O2.out with hu | hu
        · have dg : decide (0 < u2) = true := by simp; omega
          have HU := Lib.hid hu
          clear hu
          go_wp2_with fail
          go_round
          case rel => exact sgInv_eq (by have := E.out; have := HU.out; omega) (.inr (.inr (.inr (.inl ⟨rfl, rfl⟩))))
          case measure => first | (simp [intOf]; done) | (simp [intOf]; omega)
        · have dg : decide (0 < u2) = false := by simp; omega
          have HU := Lib.hid hu
          clear hu
          go_wp2_with fail
          go_round
          case rel => exact sgInv_eq (by have := E.out; have := HU.out; omega) (.inr (.inr (.inr (.inl ⟨rfl, rfl⟩))))
          case measure => first | (simp [intOf]; done) | (simp [intOf]; omega)
    · rcases Int.lt_trichotomy aw 0 with hx | hx | hx
      · have E := Lib.hid (show u0 = -G by rw [H0.out, sgnG_neg _ _ hx])
        have nx : (aw != 0) = true := by rw [bne_iff_ne]; omega
        have dx : decide (0 < aw) = false := by simp; omega
        clear hx
        rcases O1.out with hu | hu
        · have dg : decide (0 < u1) = true := by simp; omega
          have HU := Lib.hid hu
          clear hu
          go_wp2_with fail
          go_round
          case rel => exact sgInv_eq (by have := E.out; have := HU.out; omega) (.inr (.inr (.inr (.inr ⟨rfl, rfl⟩))))
          case measure => first | (simp [intOf]; done) | (simp [intOf]; omega)
        · have dg : decide (0 < u1) = false := by simp; omega
          have HU := Lib.hid hu
          clear hu
          go_wp2_with fail
          go_round
          case rel => exact sgInv_eq (by have := E.out; have := HU.out; omega) (.inr (.inr (.inr (.inr ⟨rfl, rfl⟩))))
          case measure => first | (simp [intOf]; done) | (simp [intOf]; omega)
      · have E := Lib.hid (show u0 = u1 by rw [H0.out, hx, sgnG_zero])
        have hx0 : (aw != 0) = false := by simpa using hx
        have HX := Lib.hid hx
        clear hx
        go_wp2_with fail
        go_round
        case rel => exact sgInv_eq (by have := E.out; omega) (.inr (.inr (.inr (.inr ⟨rfl, rfl⟩))))
        case measure => first | (simp [intOf]; done) | (simp [intOf]; omega)
      · have E := Lib.hid (show u0 = G by rw [H0.out, sgnG_pos _ _ hx])
        have nx : (aw != 0) = true := by rw [bne_iff_ne]; omega
        have dx : decide (0 < aw) = true := by simp; omega
        clear hx
        rcases O1.out with hu | hu
        · have dg : decide (0 < u1) = true := by simp; omega
          have HU := Lib.hid hu
          clear hu
          go_wp2_with fail
          go_round
          case rel => exact sgInv_eq (by have := E.out; have := HU.out; omega) (.inr (.inr (.inr (.inr ⟨rfl, rfl⟩))))
          case measure => first | (simp [intOf]; done) | (simp [intOf]; omega)
        · have dg : decide (0 < u1) = false := by simp; omega
          have HU := Lib.hid hu
          clear hu
          go_wp2_with fail
          go_round
          case rel => exact sgInv_eq (by have := E.out; have := HU.out; omega) (.inr (.inr (.inr (.inr ⟨rfl, rfl⟩))))
          case measure => first | (simp [intOf]; done) | (simp [intOf]; omega)
    · clear H3 H2 H1 H0 O3 O2 O1
      go_wp2_with fail
      obtain ⟨p0, p1⟩ := D0.out; obtain ⟨p2, p3⟩ := D1.out; obtain ⟨p4, p5⟩ := D2.out; obtain ⟨p6, p7⟩ := D3.out
      refine wp_loop_rounds 5 ?_
      iterate 4 (rw [rounds_succ]; go_wp2; (try (go_region; go_wp2)))
      rw [rounds_succ]
      go_wp2
      refine bodyPost_ret (v := .agg #[.int .i64 (aw.tdiv u0), .int .i64 (ax.tdiv u0), .int .i64 (ay.tdiv u0), .int .i64 (az.tdiv u0)]) (by simp [results, Tryd.results10, go_sem]) rfl ⟨rfl, ?_⟩
      (repeat (first | with_reducible assumption | with_reducible exact Below.refl _ _ | with_reducible refine Below.drewN ?_ _ | with_reducible refine Below.drew ?_ | with_reducible refine Below.alloc ?_ (by first | omega | (simp; done) | (simp; omega)) _ | with_reducible refine Below.setCell ?_ (by first | omega | (simp; done) | (simp; omega)) _ | with_reducible refine below_more _ _ ?_ (by first | omega | (simp; done) | (simp; omega))))
end Go.Proofs.YthajaabgcbjfkaaDoor
