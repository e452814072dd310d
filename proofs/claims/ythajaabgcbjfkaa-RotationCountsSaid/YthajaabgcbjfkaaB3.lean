/- Contracts of the reference: Units, Canonical. Contracts of the reference: Over and LeftOver, where there is a quotient; the program's Gcd. Contracts of the reference: Quats, OfNorm. -/
import Derived.Test.YthajaabgcbjfkaaB1
import Derived.Test.YthajaabgcbjfkaaBase
import Derived.Test.YthajaabgcbjfkaaP3
import Derived.Test.YthajaabgcbjfkaaQ1
import Derived.Test.YthajaabgcbjfkaaR4
import Derived.Deep.LoopGhost
namespace Go.Proofs.Ythajaabgcbjfkaa
open Go.RowKit

theorem runits_any (w : World) :
    Calls Try.prog 34 #[] w fun e w' => ∃ g cap, e = .returned (.slice (some ⟨g, 0, none⟩) 24 cap) ∧ w.heap.size ≤ g ∧ g < w'.heap.size ∧ (∀ k q, unitsE[k]? = some q → H4 w' g k q) ∧ Below w.heap.size w w' := by
  go_enter Try.func34, Try.ntmps34
  go_wp2_with (go_at_call 75; refine (all_any 1 (by omega) (by omega) _).mono ?_; rintro e w1 ⟨v, rfl, hown, hb⟩; have HO := Lib.hid hown; clear hown)
  go_ret
  have h := HO.out
  rw [allH_one] at h
  rcases h.rd with ⟨_, h0⟩ | ⟨g, cap, rfl, h1, h2, h3⟩
  · exact absurd h0 (by decide)
  · exact ⟨g, cap, rfl, h1, h2, h3, hb⟩

theorem Qt.cmp_pos (a b : Qt) : 0 < a.cmp b ↔ b.lt a := by
  have h0 := Qt.cmp_neg b a
  have hneg : a.cmp b = - b.cmp a := by
    have ci : ∀ p q : Int, cmpI p q = - cmpI q p := fun p q => by unfold cmpI; split <;> split <;> first | rfl | omega | (split <;> omega)
    unfold Qt.cmp
    rw [ci a.w b.w, ci a.x b.x, ci a.y b.y, ci a.z b.z]
    have nb : ∀ p : Int, (-p != 0) = (p != 0) := fun p => by rw [Bool.eq_iff_iff, bne_iff_ne, bne_iff_ne]; omega
    simp only [nb]
    split <;> (try split) <;> (try split) <;> rfl
  rw [← h0, hneg]; omega
theorem canStep_ltb (x b u : Qt) : canStep x b u = if b.ltb (Qt.hm x u) then Qt.hm x u else b := by
  change (if 0 < (Qt.hm x u).cmp b then Qt.hm x u else b) = _
  by_cases h : b.ltb (Qt.hm x u) = true
  · rw [if_pos h, if_pos ((Qt.cmp_pos _ _).2 (Qt.ltb_iff.1 h))]
  · rw [if_neg h, if_neg fun hc => h (Qt.ltb_iff.2 ((Qt.cmp_pos _ _).1 hc))]
theorem H4.swap {W W' : World} {g k : Nat} {q : Qt} {v : Nat × Array Obj} (h : H4 (more W v) g k q) (hs : W'.heap.size = W.heap.size) (hb : W.heap.size ≤ g) : H4 (more W' v) g k q := by
  have e : ∀ o, (more W' v).cell? ⟨g, o, none⟩ = (more W v).cell? ⟨g, o, none⟩ := fun o => World.cell?_of_block (by
    simp only [more]
    rw [Array.getElem?_append_right (by omega), Array.getElem?_append_right (by omega), hs])
  exact ⟨by rw [e]; exact h.c0, by rw [e]; exact h.c1, by rw [e]; exact h.c2, by rw [e]; exact h.c3⟩
/-- The units lie at block g. -/
def UAt (w : World) (g : Nat) : Prop := g < w.heap.size ∧ ∀ k q, unitsE[k]? = some q → H4 w g k q
theorem UAt.below {w w' : World} {g : Nat} (h : UAt w g) (hb : Below w.heap.size w w') : UAt w' g :=
  ⟨Nat.lt_of_lt_of_le h.1 hb.size, fun k q hq => (h.2 k q hq).below hb h.1⟩
theorem UAt.swap {W W' : World} {g : Nat} {v : Nat × Array Obj} (h : UAt (more W v) g) (hs : W'.heap.size = W.heap.size) (hb : W.heap.size ≤ g) : UAt (more W' v) g :=
  ⟨by have := h.1; simp only [size_more_eq] at *; omega, fun k q hq => (h.2 k q hq).swap hs hb⟩

set_option maxRecDepth 10000 in
set_option maxHeartbeats 2000000 in
theorem rcanonical_in (x : Qt) (h : ∀ u ∈ unitsE, (x.mul u).InR) (w : World) :
    Calls Try.prog 43 #[.agg #[.int .i64 x.w, .int .i64 x.x, .int .i64 x.y, .int .i64 x.z]] w fun e w' => e = .returned (.agg #[.int .i64 (canon x).w, .int .i64 (canon x).x, .int .i64 (canon x).y, .int .i64 (canon x).z]) ∧ Below w.heap.size w w' := by
  go_enter Try.func43, Try.ntmps43
  go_wp2_with (first | (go_at_call 34; refine (runits_any _).mono ?_; rintro e w1 ⟨g, cap, rfl, hg, hg2, hu, hb1⟩; have hua : UAt w1 g := ⟨hg2, hu⟩; clear hg2 hu; obtain ⟨g1, rfl⟩ := more_of_below hb1))
  simp only [World.size_alloc] at hg
  go_loopw [5] (fun i wr => ∃ k : Nat, k ≤ 24 ∧ i = .int .i64 k ∧ (∃ gg, wr = more (((w.alloc (.cells #[.int .i64 x.w, .int .i64 x.x, .int .i64 x.y, .int .i64 x.z] 32)).alloc (.cells #[.int .i64 0, .int .i64 0, .int .i64 0, .int .i64 0] 32)).alloc (.cells #[.int .i64 (((unitsE.take k).foldl (canStep x) x).w), .int .i64 (((unitsE.take k).foldl (canStep x) x).x), .int .i64 (((unitsE.take k).foldl (canStep x) x).y), .int .i64 (((unitsE.take k).foldl (canStep x) x).z)] 32)) gg) ∧ UAt wr g) (fun i _ => 24 - (intOf i).toNat)
  case atStart => exact ⟨0, by omega, rfl, ⟨g1, rfl⟩, hua⟩
  case round =>
    clear hua hb1
    obtain ⟨k, hk, rfl, ⟨gg, rfl⟩, hua⟩ := hrel
    generalize hb : (unitsE.take k).foldl (canStep x) x = b at *
    have HB := Lib.hid hb
    clear hb
    by_cases hk24 : k < 24
    · obtain ⟨u, hu⟩ : ∃ u, unitsE[k]? = some u := ⟨unitsE[k]'(by simpa [unitsE] using hk24), List.getElem?_eq_getElem _⟩
      have hxu := h u (List.mem_of_getElem? hu)
      obtain ⟨e0, e1, e2, e3⟩ := hua.2 k u hu
      have hgl := hua.1
      simp only [size_more_eq, World.size_alloc] at hgl
      have HU := Lib.hid hu
      have HA := Lib.hid hua
      clear hua hu
      have CT := Lib.hid (rtimes_in x u hxu)
      have hst := canStep_ltb x b u
      rw [Qt.hm_eq] at CT
      generalize hm : Qt.hm x u = y at *
      have HST := Lib.hid hst
      clear hst hm
      have kz : (0 : Int) ≤ (k : Int) := by omega
      have kn : (k : Int) < 24 := by omega
      go_wp2_with fail
      (apply Own2.wp_region_own2 7 [.inl _, .inl _, .inl _, .inl _, .inl _, .inl _, .inr (.cells #[.int .i64 0, .int .i64 0, .int .i64 0, .int .i64 0] 32, fun b => .pointer (some ⟨b, 0, none⟩))] (by kernel_rfl) (by kernel_rfl); simp only [List.take_succ_cons, List.take_zero, List.drop_succ_cons, List.drop_zero]; (refine Own2.lexM_val rfl (fun K hK => ?_); go_simp; (try go_bits); refine ⟨fun w' hw' hcb' => ?_, hK _ ?_⟩; (focus (first | with_reducible exact rfl | (go_at_call 23; (with_reducible exact CT.out _)) | (obtain ⟨gx, rfl⟩ := more_of_below (Ext.below hw'); go_simp; exact rfl))); clear hK K); (refine Own2.lexM_val rfl (fun K hK => ?_); go_simp; (try go_bits); refine ⟨fun w' hw' hcb' => ?_, hK _ ?_⟩; (focus (first | with_reducible exact rfl | (go_at_call 23; (with_reducible exact CT.out _)) | (obtain ⟨gx, rfl⟩ := more_of_below (Ext.below hw'); go_simp; exact rfl))); clear hK K); (refine Own2.lexM_val rfl (fun K hK => ?_); go_simp; (try go_bits); refine ⟨fun w' hw' hcb' => ?_, hK _ ?_⟩; (focus (first | with_reducible exact rfl | (go_at_call 23; (with_reducible exact CT.out _)) | (obtain ⟨gx, rfl⟩ := more_of_below (Ext.below hw'); go_simp; exact rfl))); clear hK K); (refine Own2.lexM_val rfl (fun K hK => ?_); go_simp; (try go_bits); refine ⟨fun w' hw' hcb' => ?_, hK _ ?_⟩; (focus (first | with_reducible exact rfl | (go_at_call 23; (with_reducible exact CT.out _)) | (obtain ⟨gx, rfl⟩ := more_of_below (Ext.below hw'); go_simp; exact rfl))); clear hK K); (refine Own2.lexM_val rfl (fun K hK => ?_); go_simp; (try go_bits); refine ⟨fun w' hw' hcb' => ?_, hK _ ?_⟩; (focus (first | with_reducible exact rfl | (go_at_call 23; (with_reducible exact CT.out _)) | (obtain ⟨gx, rfl⟩ := more_of_below (Ext.below hw'); go_simp; exact rfl))); clear hK K); (refine Own2.lexM_val rfl (fun K hK => ?_); go_simp; (try go_bits); refine ⟨fun w' hw' hcb' => ?_, hK _ ?_⟩; (focus (first | with_reducible exact rfl | (go_at_call 23; (with_reducible exact CT.out _)) | (obtain ⟨gx, rfl⟩ := more_of_below (Ext.below hw'); go_simp; exact rfl))); clear hK K); (refine Own2.lexM_mem rfl ?_ (fun w => by first | rfl | (go_simp; rfl) | (go_simp; done)) (fun b11 hb11 hn11 => ?_); (focus (first | rfl | (go_simp <;> rfl) | decide)); simp only [Act.put, List.setIfInBounds_toArray, List.set_cons_succ, List.set_cons_zero]); intro w1 hw1; have hB1 := hw1.1; have hO11 := (hw1.2 _ b11 _ (Or.inl ⟨rfl, rfl, rfl⟩)).2; clear hw1; obtain ⟨g1, g1', hE1, rfl⟩ := split_block hB1 hb11 hO11; clear hB1 hb11 hO11; (try clear hn11); (repeat (first | simp only [size_more_eq] at hE1 | simp only [World.size_alloc] at hE1)); subst hE1)
      clear e0 e1 e2 e3
      cases hbl : b.ltb y
      · have CG := Lib.hid (fun w => greater_any y b w)
        rw [hbl] at CG
        go_wp2_with (first | (go_at_call 89; with_reducible refine (CG.out _).mono ?_; rintro e w3 ⟨rfl, hb3⟩; obtain ⟨g3, rfl⟩ := more_of_below hb3; clear hb3))
        go_roundw
        case rel =>
          have hs : (unitsE.take (k + 1)).foldl (canStep x) x = b := by rw [take_snoc' HU.out, canFold_snoc, HB.out, HST.out, hbl]; rfl
          exact ⟨k + 1, by omega, by go_num, by rw [hs]; exact more_of_below (by (repeat (first | with_reducible assumption | with_reducible exact Below.refl _ _ | with_reducible refine Below.drewN ?_ _ | with_reducible refine Below.drew ?_ | with_reducible refine Below.alloc ?_ (by first | omega | (simp; done) | (simp; omega)) _ | with_reducible refine Below.setCell ?_ (by first | omega | (simp; done) | (simp; omega)) _ | with_reducible refine below_more _ _ ?_ (by first | omega | (simp; done) | (simp; omega))))), HA.out.below (by (repeat (first | with_reducible assumption | with_reducible exact Below.refl _ _ | with_reducible refine Below.drewN ?_ _ | with_reducible refine Below.drew ?_ | with_reducible refine Below.alloc ?_ (by first | omega | (simp; done) | (simp; omega)) _ | with_reducible refine Below.setCell ?_ (by first | omega | (simp; done) | (simp; omega)) _ | with_reducible refine below_more _ _ ?_ (by first | omega | (simp; done) | (simp; omega)))))⟩
        case measure => simp [intOf]; omega
      · have CG := Lib.hid (fun w => greater_any y b w)
        rw [hbl] at CG
        go_wp2_with (first | (go_at_call 89; with_reducible refine (CG.out _).mono ?_; rintro e w3 ⟨rfl, hb3⟩; obtain ⟨g3, rfl⟩ := more_of_below hb3; clear hb3))
        go_roundw
        case rel =>
          have hs : (unitsE.take (k + 1)).foldl (canStep x) x = y := by rw [take_snoc' HU.out, canFold_snoc, HB.out, HST.out, hbl]; rfl
          refine ⟨k + 1, by omega, by go_num, by rw [hs]; exact more_of_below (by (repeat (first | with_reducible assumption | with_reducible exact Below.refl _ _ | with_reducible refine Below.drewN ?_ _ | with_reducible refine Below.drew ?_ | with_reducible refine Below.alloc ?_ (by first | omega | (simp; done) | (simp; omega)) _ | with_reducible refine Below.setCell ?_ (by first | omega | (simp; done) | (simp; omega)) _ | with_reducible refine below_more _ _ ?_ (by first | omega | (simp; done) | (simp; omega))))), ?_⟩
          refine UAt.below (HA.out.swap (W' := ((w.alloc (.cells #[.int .i64 x.w, .int .i64 x.x, .int .i64 x.y, .int .i64 x.z] 32)).alloc (.cells #[.int .i64 0, .int .i64 0, .int .i64 0, .int .i64 0] 32)).alloc (.cells #[.int .i64 y.w, .int .i64 y.x, .int .i64 y.y, .int .i64 y.z] 32)) (by simp) (by simpa using hg)) (by (repeat (first | with_reducible assumption | with_reducible exact Below.refl _ _ | with_reducible refine Below.drewN ?_ _ | with_reducible refine Below.drew ?_ | with_reducible refine Below.alloc ?_ (by first | omega | (simp; done) | (simp; omega)) _ | with_reducible refine Below.setCell ?_ (by first | omega | (simp; done) | (simp; omega)) _ | with_reducible refine below_more _ _ ?_ (by first | omega | (simp; done) | (simp; omega)))))
        case measure => simp [intOf]; omega
    · obtain rfl : k = 24 := by omega
      have hc : canon x = b := by rw [← HB.out]; unfold canon; rw [unitsL_eq]; rfl
      go_wp2
      refine bodyPost_ret (v := .agg #[.int .i64 (canon x).w, .int .i64 (canon x).x, .int .i64 (canon x).y, .int .i64 (canon x).z]) (by rw [hc]; simp [results, Try.results43, go_sem]) rfl ⟨rfl, by (repeat (first | with_reducible assumption | with_reducible exact Below.refl _ _ | with_reducible refine Below.drewN ?_ _ | with_reducible refine Below.drew ?_ | with_reducible refine Below.alloc ?_ (by first | omega | (simp; done) | (simp; omega)) _ | with_reducible refine Below.setCell ?_ (by first | omega | (simp; done) | (simp; omega)) _ | with_reducible refine below_more _ _ ?_ (by first | omega | (simp; done) | (simp; omega))))⟩
theorem rcanonical_hz (x : Qt) (b : x.nrm ≤ 4000000000000) (w : World) :
    Calls Try.prog 43 #[.agg #[.int .i64 x.w, .int .i64 x.x, .int .i64 x.y, .int .i64 x.z]] w fun e w' => e = .returned (.agg #[.int .i64 (canon x).w, .int .i64 (canon x).x, .int .i64 (canon x).y, .int .i64 (canon x).z]) ∧ Below w.heap.size w w' :=
  rcanonical_in x (fun u hu => Qt.inR_of_nrm (by rw [Qt.nrm_mul, (unitsL_spec (u := u) (by rw [unitsL_eq]; exact hu)).1]; omega)) w

set_option maxRecDepth 10000 in
set_option maxHeartbeats 1000000 in
theorem rgcd_in (x y : Qt) (hx : Qt.Hz x) (hy : Qt.Hz y) (bx : x.nrm ≤ 4000000000000) (b : y.nrm ≤ 4000000000000) (w : World) :
    Calls Try.prog 31 #[.agg #[.int .i64 x.w, .int .i64 x.x, .int .i64 x.y, .int .i64 x.z], .agg #[.int .i64 y.w, .int .i64 y.x, .int .i64 y.y, .int .i64 y.z]] w fun e w' => e = .returned (.agg #[.int .i64 (gcdQ x y).w, .int .i64 (gcdQ x y).x, .int .i64 (gcdQ x y).y, .int .i64 (gcdQ x y).z]) ∧ Below w.heap.size w w' := by
  have hG : Gs x y y.nrm.toNat x y := ⟨hx, hy, bx, b, Nat.le_refl _, rfl⟩
  unfold gcdQ
  have HG := Lib.hid hG
  clear hG hx hy bx b
  obtain ⟨x0, hx0⟩ : ∃ x0, x0 = x := ⟨_, rfl⟩
  obtain ⟨y0, hy0⟩ : ∃ y0, y0 = y := ⟨_, rfl⟩
  rw [← hx0, ← hy0] at HG
  go_enter Try.func31, Try.ntmps31
  go_wp2_with fail
  go_loopg [] y0.nrm.toNat (fun k wr => ∃ x y : Qt, Hid (Gs x0 y0 k x y) ∧ ∃ gg, wr = more (((w.alloc (.cells #[.int .i64 x.w, .int .i64 x.x, .int .i64 x.y, .int .i64 x.z] 32)).alloc (.cells #[.int .i64 y.w, .int .i64 y.x, .int .i64 y.y, .int .i64 y.z] 32)).alloc (.cells #[.int .i64 0, .int .i64 0, .int .i64 0, .int .i64 0] 32)) gg)
  case atStart =>
    subst hx0 hy0
    exact ⟨_, _, HG, more_of_below (by (repeat (first | with_reducible assumption | with_reducible exact Below.refl _ _ | with_reducible refine Below.drewN ?_ _ | with_reducible refine Below.drew ?_ | with_reducible refine Below.alloc ?_ (by first | omega | (simp; done) | (simp; omega)) _ | with_reducible refine Below.setCell ?_ (by first | omega | (simp; done) | (simp; omega)) _ | with_reducible refine below_more _ _ ?_ (by first | omega | (simp; done) | (simp; omega)))))⟩
  case round =>
    obtain ⟨x, y, HS, gg, rfl⟩ := hrel
    cases hz : y.eqb ⟨0, 0, 0, 0⟩
    · have CZ := Lib.hid (fun w => rzero_any y w)
      rw [hz] at CZ
      obtain ⟨k', hk', HS'⟩ := HS.out.step hz
      have HH := Lib.hid HS'
      have CD := Lib.hid (fun w => rdivide_hz x y HS.out.hx HS.out.hy HS.out.bx HS.out.by_ (nrm_pos_of hz) w)
      generalize x.quo y = q at *
      generalize x.dr y = r at *
      clear HS' hz
      go_wp2_with (first | (go_at_call 18; with_reducible refine (CZ.out _).mono ?_; rintro e w2 ⟨rfl, hb2⟩; obtain ⟨g2, rfl⟩ := more_of_below hb2; clear hb2) | (go_at_call 19; with_reducible refine (CD.out _).mono ?_; rintro e w3 ⟨rfl, hb3⟩; obtain ⟨g3, rfl⟩ := more_of_below hb3; clear hb3))
      go_region
      go_wp2
      all_goals go_roundg k'
      case measure => exact hk'
      case rel => exact ⟨y, r, HH, more_of_below (by (repeat (first | with_reducible assumption | with_reducible exact Below.refl _ _ | with_reducible refine Below.drewN ?_ _ | with_reducible refine Below.drew ?_ | with_reducible refine Below.alloc ?_ (by first | omega | (simp; done) | (simp; omega)) _ | with_reducible refine Below.setCell ?_ (by first | omega | (simp; done) | (simp; omega)) _ | with_reducible refine below_more _ _ ?_ (by first | omega | (simp; done) | (simp; omega)))))⟩
    · have CZ := Lib.hid (fun w => rzero_any y w)
      rw [hz] at CZ
      have hr : canon (gcdF y0.nrm.toNat x0 y0) = canon x := by rw [← HS.out.he, gcdF_zero _ _ _ hz]
      have CC := Lib.hid (fun w => rcanonical_hz x HS.out.bx w)
      rw [← hr] at CC
      clear hr hz
      subst hx0 hy0
      go_wp2_with (first | (go_at_call 18; with_reducible refine (CZ.out _).mono ?_; rintro e w2 ⟨rfl, hb2⟩; obtain ⟨g2, rfl⟩ := more_of_below hb2; clear hb2) | (go_at_call 43; with_reducible refine (CC.out _).mono ?_; rintro e w3 ⟨rfl, hb3⟩; obtain ⟨g3, rfl⟩ := more_of_below hb3; clear hb3))
      refine bodyPost_ret (v := .agg #[.int .i64 (canon (gcdF y0.nrm.toNat x0 y0)).w, .int .i64 (canon (gcdF y0.nrm.toNat x0 y0)).x, .int .i64 (canon (gcdF y0.nrm.toNat x0 y0)).y, .int .i64 (canon (gcdF y0.nrm.toNat x0 y0)).z]) (by simp [results, Try.results31, go_sem]) rfl ⟨rfl, by (repeat (first | with_reducible assumption | with_reducible exact Below.refl _ _ | with_reducible refine Below.drewN ?_ _ | with_reducible refine Below.drew ?_ | with_reducible refine Below.alloc ?_ (by first | omega | (simp; done) | (simp; omega)) _ | with_reducible refine Below.setCell ?_ (by first | omega | (simp; done) | (simp; omega)) _ | with_reducible refine below_more _ _ ?_ (by first | omega | (simp; done) | (simp; omega))))⟩
end Go.Proofs.Ythajaabgcbjfkaa

namespace Go.Proofs.Ythajaabgcbjfkaa
open Go.RowKit

set_option maxRecDepth 10000 in
set_option maxHeartbeats 2000000 in
theorem rover_ok (h q : Qt) (m : Int) (hm : 1 ≤ m) (hm2 : m ≤ 4000000000000000000) (he : h = Qt.smul m q) (hq : Qt.Hz q) (hi : h.InR) (hi2 : (Qt.smul 2 q).InR) (w : World) :
    Calls Try.prog 77 #[.agg #[.int .i64 h.w, .int .i64 h.x, .int .i64 h.y, .int .i64 h.z], .int .i64 m] w fun e w' => e = .returned (.tuple #[.agg #[.int .i64 q.w, .int .i64 q.x, .int .i64 q.y, .int .i64 q.z], .bool true]) ∧ Below w.heap.size w w' := by
  have t : ∀ a b : Int, a = m * b → (a.tmod m != 0) = false ∧ a.tdiv m = b := fun a b hab => by
    subst hab
    exact ⟨by rw [bne_eq_false_iff_eq, Int.mul_tmod_right], Int.mul_tdiv_cancel_left _ (by omega)⟩
  obtain ⟨t0, d0⟩ := t h.w q.w (by rw [he]; rfl)
  obtain ⟨t1, d1⟩ := t h.x q.x (by rw [he]; rfl)
  obtain ⟨t2, d2⟩ := t h.y q.y (by rw [he]; rfl)
  obtain ⟨t3, d3⟩ := t h.z q.z (by rw [he]; rfl)
  obtain ⟨⟨i0, i1⟩, ⟨i2, i3⟩, ⟨i4, i5⟩, ⟨i6, i7⟩⟩ := hi
  obtain ⟨⟨b0, b1⟩, ⟨b2, b3⟩, ⟨b4, b5⟩, ⟨b6, b7⟩⟩ := hi2
  simp only [Qt.smul] at b0 b1 b2 b3 b4 b5 b6 b7
  rw [Qt.hz_iff] at hq
  obtain ⟨p1, p2, p3⟩ := hq
  have e1 : ((q.x - q.w) % 2 != 0) = false := by simpa using p1
  have e2 : ((q.y - q.w) % 2 != 0) = false := by simpa using p2
  have e3 : ((q.z - q.w) % 2 != 0) = false := by simpa using p3
  have m0 : ¬ m = 0 := by omega
  clear t he p1 p2 p3
  go_enter Try.func77, Try.ntmps77
  go_wp2
  refine wp_loop_rounds 5 ?_
  repeat any_goals (rw [rounds_succ]; go_wp2_with fail; (try ((refine wp_region_quiet (C := Ext _) (by kernel_rfl) (by kernel_rfl) (Ext.start _) ?_; simp only []; (repeat (refine wpQuiet_step (fun K hK => ?_); go_simp; (try go_bits); apply Exists.intro; refine ⟨fun w' hw' => ?_, hK _ ?_⟩; (focus (first | with_reducible exact rfl | (go_at_call 114; (exact Ext.call hw' (Calls.mono (rmod_in _ _ (by omega) (by omega) (by omega) (by omega) _) same_below))) | (obtain ⟨gx, rfl⟩ := more_of_below (Ext.below hw'); go_simp; exact rfl))); clear hK K)); refine wpQuiet_nil ?_; intro w1 hw1; have hb1 := Ext.below hw1; clear hw1; obtain ⟨g1, rfl⟩ := more_of_below hb1; clear hb1))); go_wp2)
  refine bodyPost_ret (v := .tuple #[.agg #[.int .i64 q.w, .int .i64 q.x, .int .i64 q.y, .int .i64 q.z], .bool true]) (by simp [results, Try.results77, go_sem]) rfl ⟨rfl, ?_⟩
  (repeat (first | with_reducible assumption | with_reducible exact Below.refl _ _ | with_reducible refine Below.drewN ?_ _ | with_reducible refine Below.drew ?_ | with_reducible refine Below.alloc ?_ (by first | omega | (simp; done) | (simp; omega)) _ | with_reducible refine Below.setCell ?_ (by first | omega | (simp; done) | (simp; omega)) _ | with_reducible refine below_more _ _ ?_ (by first | omega | (simp; done) | (simp; omega))))

set_option maxRecDepth 10000 in
set_option maxHeartbeats 2000000 in
theorem rleft_walk (h d q c T : Qt) (n : Int)
    (cc : ∀ w, Calls Try.prog 70 #[.agg #[.int .i64 d.w, .int .i64 d.x, .int .i64 d.y, .int .i64 d.z]] w fun e w' => e = .returned (.agg #[.int .i64 c.w, .int .i64 c.x, .int .i64 c.y, .int .i64 c.z]) ∧ Below w.heap.size w w')
    (ct : ∀ w, Calls Try.prog 23 #[.agg #[.int .i64 c.w, .int .i64 c.x, .int .i64 c.y, .int .i64 c.z], .agg #[.int .i64 h.w, .int .i64 h.x, .int .i64 h.y, .int .i64 h.z]] w fun e w' => e = .returned (.agg #[.int .i64 T.w, .int .i64 T.x, .int .i64 T.y, .int .i64 T.z]) ∧ Below w.heap.size w w')
    (cn : ∀ w, Calls Try.prog 21 #[.agg #[.int .i64 d.w, .int .i64 d.x, .int .i64 d.y, .int .i64 d.z]] w fun e w' => e = .returned (.int .i64 n) ∧ Below w.heap.size w w')
    (b : Bool) (co : ∀ w, Calls Try.prog 77 #[.agg #[.int .i64 T.w, .int .i64 T.x, .int .i64 T.y, .int .i64 T.z], .int .i64 n] w fun e w' => e = .returned (.tuple #[.agg #[.int .i64 q.w, .int .i64 q.x, .int .i64 q.y, .int .i64 q.z], .bool b]) ∧ Below w.heap.size w w') (w : World) :
    Calls Try.prog 32 #[.agg #[.int .i64 h.w, .int .i64 h.x, .int .i64 h.y, .int .i64 h.z], .agg #[.int .i64 d.w, .int .i64 d.x, .int .i64 d.y, .int .i64 d.z]] w fun e w' => e = .returned (.tuple #[.agg #[.int .i64 q.w, .int .i64 q.x, .int .i64 q.y, .int .i64 q.z], .bool b]) ∧ Below w.heap.size w w' := by
  have CC := Lib.hid cc; have CT := Lib.hid ct; have CN := Lib.hid cn; have CO := Lib.hid co
  clear cc ct cn co
  go_enter Try.func32, Try.ntmps32
  go_wp2_with fail
  (apply Own2.wp_region_own2 5 [.inl _, .inl _, .inl _, .inl _, .inr (.cells #[.int .i64 0, .int .i64 0, .int .i64 0, .int .i64 0] 32, fun b => .pointer (some ⟨b, 0, none⟩))] (by kernel_rfl) (by kernel_rfl); simp only [List.take_succ_cons, List.take_zero, List.drop_succ_cons, List.drop_zero]; (refine Own2.lexM_val rfl (fun K hK => ?_); go_simp; (try go_bits); refine ⟨fun w' hw' hcb' => ?_, hK _ ?_⟩; (focus (first | with_reducible exact rfl | (go_at_call 70; (with_reducible exact CC.out _)) | (go_at_call 23; (with_reducible exact CT.out _)) | (obtain ⟨gx, rfl⟩ := more_of_below (Ext.below hw'); go_simp; exact rfl))); clear hK K); (refine Own2.lexM_val rfl (fun K hK => ?_); go_simp; (try go_bits); refine ⟨fun w' hw' hcb' => ?_, hK _ ?_⟩; (focus (first | with_reducible exact rfl | (go_at_call 70; (with_reducible exact CC.out _)) | (go_at_call 23; (with_reducible exact CT.out _)) | (obtain ⟨gx, rfl⟩ := more_of_below (Ext.below hw'); go_simp; exact rfl))); clear hK K); (refine Own2.lexM_val rfl (fun K hK => ?_); go_simp; (try go_bits); refine ⟨fun w' hw' hcb' => ?_, hK _ ?_⟩; (focus (first | with_reducible exact rfl | (go_at_call 70; (with_reducible exact CC.out _)) | (go_at_call 23; (with_reducible exact CT.out _)) | (obtain ⟨gx, rfl⟩ := more_of_below (Ext.below hw'); go_simp; exact rfl))); clear hK K); (refine Own2.lexM_val rfl (fun K hK => ?_); go_simp; (try go_bits); refine ⟨fun w' hw' hcb' => ?_, hK _ ?_⟩; (focus (first | with_reducible exact rfl | (go_at_call 70; (with_reducible exact CC.out _)) | (go_at_call 23; (with_reducible exact CT.out _)) | (obtain ⟨gx, rfl⟩ := more_of_below (Ext.below hw'); go_simp; exact rfl))); clear hK K); (refine Own2.lexM_mem rfl ?_ (fun w => by first | rfl | (go_simp; rfl) | (go_simp; done)) (fun b11 hb11 hn11 => ?_); (focus (first | rfl | (go_simp <;> rfl) | decide)); simp only [Act.put, List.setIfInBounds_toArray, List.set_cons_succ, List.set_cons_zero]); intro w1 hw1; have hB1 := hw1.1; have hO11 := (hw1.2 _ b11 _ (Or.inl ⟨rfl, rfl, rfl⟩)).2; clear hw1; obtain ⟨g1, g1', hE1, rfl⟩ := split_block hB1 hb11 hO11; clear hB1 hb11 hO11; (try clear hn11); (repeat (first | simp only [size_more_eq] at hE1 | simp only [World.size_alloc] at hE1)); subst hE1)
  go_wp2_with fail
  (refine wp_region_calm_tail 6 (Ext _) (by kernel_rfl) (by kernel_rfl) (Ext.start _) ?_; simp only [List.take_succ_cons, List.take_zero, List.drop_succ_cons, List.drop_zero]; (repeat (refine wpQuiet_step (fun K hK => ?_); go_simp; (try go_bits); apply Exists.intro; refine ⟨fun w' hw' => ?_, hK _ ?_⟩; (focus (first | with_reducible exact rfl | (go_at_call 21; (with_reducible exact Ext.call hw' (CN.out _))) | (go_at_call 77; (with_reducible exact Ext.call hw' (CO.out _))) | (obtain ⟨gx, rfl⟩ := more_of_below (Ext.below hw'); go_simp; exact rfl))); clear hK K)); refine wpQuiet_nil ?_; intro w2 hw2; have hb2 := Ext.below hw2; clear hw2; obtain ⟨g2, rfl⟩ := more_of_below hb2; clear hb2)
  go_wp2
  refine bodyPost_ret (v := .tuple #[.agg #[.int .i64 q.w, .int .i64 q.x, .int .i64 q.y, .int .i64 q.z], .bool b]) (by simp [results, Try.results32, go_sem]) rfl ⟨rfl, ?_⟩
  (repeat (first | with_reducible assumption | with_reducible exact Below.refl _ _ | with_reducible refine Below.drewN ?_ _ | with_reducible refine Below.drew ?_ | with_reducible refine Below.alloc ?_ (by first | omega | (simp; done) | (simp; omega)) _ | with_reducible refine Below.setCell ?_ (by first | omega | (simp; done) | (simp; omega)) _ | with_reducible refine below_more _ _ ?_ (by first | omega | (simp; done) | (simp; omega))))
open Qt in
theorem nrm_smul (n : Int) (q : Qt) : (smul n q).nrm = n * n * q.nrm := by simp only [nrm, smul]; grind
open Qt in
/-- LeftOver, of a product d q. -/
theorem rleft_ok (d q : Qt) (hd : Hz d) (hq : Hz q) (h4 : 4 ≤ d.nrm) (bd : d.nrm ≤ 4000000000) (bq : q.nrm ≤ 4000000000) (w : World) :
    Calls Try.prog 32 #[.agg #[.int .i64 (hm d q).w, .int .i64 (hm d q).x, .int .i64 (hm d q).y, .int .i64 (hm d q).z], .agg #[.int .i64 d.w, .int .i64 d.x, .int .i64 d.y, .int .i64 d.z]] w fun e w' => e = .returned (.tuple #[.agg #[.int .i64 q.w, .int .i64 q.x, .int .i64 q.y, .int .i64 q.z], .bool true]) ∧ Below w.heap.size w w' := by
  have hT := left_over hd hq
  have hdq := hz_hm hd hq
  have n1 := hm_nrm hd hq
  have n2 : d.nrm * q.nrm ≤ 4000000000 * 4000000000 := Int.le_trans (Int.mul_le_mul_of_nonneg_left bq (by omega)) (Int.mul_le_mul_of_nonneg_right bd (by omega))
  have n3 : (d.conj.mul (hm d q)).nrm ≤ 4000000000 * 4000000000000000000 := by
    rw [nrm_mul, nrm_conj]
    exact Int.le_trans (Int.mul_le_mul_of_nonneg_left (show (hm d q).nrm ≤ 4000000000000000000 by omega) (by omega)) (Int.mul_le_mul_of_nonneg_right bd (by omega))
  have i1 : (d.conj.mul (hm d q)).InR := inR_of_nrm (by omega)
  have i2 : (smul (d.nrm / 4) q).InR := inR_of_nrm (by
    rw [nrm_smul]
    have k1 : d.nrm / 4 * (d.nrm / 4) ≤ 1000000000 * 1000000000 := Int.le_trans (Int.mul_le_mul_of_nonneg_left (show d.nrm / 4 ≤ 1000000000 by omega) (by omega)) (Int.mul_le_mul_of_nonneg_right (show d.nrm / 4 ≤ 1000000000 by omega) (by omega))
    have k0 : 0 ≤ d.nrm / 4 * (d.nrm / 4) := Int.mul_nonneg (by omega) (by omega)
    have k2 : d.nrm / 4 * (d.nrm / 4) * q.nrm ≤ 1000000000 * 1000000000 * 4000000000 := Int.le_trans (Int.mul_le_mul_of_nonneg_left bq k0) (Int.mul_le_mul_of_nonneg_right k1 (by omega))
    omega)
  have i3 : (smul 2 q).InR := inR_of_nrm (by rw [nrm_smul]; omega)
  have ct := rtimes_in d.conj (hm d q) i1
  rw [hm_eq, hT] at ct
  exact rleft_walk (hm d q) d q _ _ _ (fun w => rconj_in d w (inR_of_nrm (by omega))) ct (rnorm_in d (by omega)) true
    (rover_ok _ q _ (by omega) (by omega) rfl hq i2 i3) w

/-- The bounds of a common divisor. -/
theorem gcdF_nrm : ∀ (k : Nat) (x y : Qt) (B : Int), Qt.Hz x → Qt.Hz y → x.nrm ≤ B → y.nrm ≤ B → (gcdF k x y).nrm ≤ B := by
  intro k
  induction k with
  | zero => intro x y B _ _ h _; exact h
  | succ k ih =>
    intro x y B hx hy h1 h2
    cases hz : y.eqb ⟨0, 0, 0, 0⟩
    · have e : gcdF (k + 1) x y = gcdF k y (x.dr y) := if_neg (by rw [hz]; decide)
      have := Qt.dr_nrm hx hy (nrm_pos_of hz)
      have := (x.dr y).nrm_nonneg
      rw [e]; exact ih _ _ _ hy (Qt.hz_dr hx hy) h2 (by omega)
    · rw [gcdF_zero _ _ _ hz]; exact h1
theorem gcdQ_nrm {x y : Qt} {B : Int} (hx : Qt.Hz x) (hy : Qt.Hz y) (h1 : x.nrm ≤ B) (h2 : y.nrm ≤ B) : (gcdQ x y).nrm ≤ B := by
  unfold gcdQ
  rw [canon_nrm (gcdF_dl _ x y hx hy (Nat.le_refl _)).1]
  exact gcdF_nrm _ x y B hx hy h1 h2
theorem common_hz (x y : Qt) (hx : Qt.Hz x) (hy : Qt.Hz y) (bx : x.nrm ≤ 4000000000000) (b : y.nrm ≤ 4000000000000) (w : World) :
    Calls Try.prog 76 #[.agg #[.int .i64 x.w, .int .i64 x.x, .int .i64 x.y, .int .i64 x.z], .agg #[.int .i64 y.w, .int .i64 y.x, .int .i64 y.y, .int .i64 y.z]] w fun e w' => e = .returned (.agg #[.int .i64 (gcdQ x y).w, .int .i64 (gcdQ x y).x, .int .i64 (gcdQ x y).y, .int .i64 (gcdQ x y).z]) ∧ Below w.heap.size w w' := common_in x y hx hy bx b w

set_option maxRecDepth 10000 in
set_option maxHeartbeats 2000000 in
theorem pgcd_err (x y : Qd) (w : World) (h : oerrL [x, y] ≠ 0) :
    Calls Try.prog 29 #[.agg #[.int .i64 x.w, .int .i64 x.x, .int .i64 x.y, .int .i64 x.z, .int .i64 x.d], .agg #[.int .i64 y.w, .int .i64 y.x, .int .i64 y.y, .int .i64 y.z, .int .i64 y.d]] w fun e w' => e = .returned (.tuple #[.agg #[.int .i64 0, .int .i64 0, .int .i64 0, .int .i64 0, .int .i64 0], .int .i64 (oerrL [x, y])]) ∧ Below w.heap.size w w' := by
  go_enter Try.func29, Try.ntmps29
  go_wp2_with (first | (go_at_call 64; with_reducible refine (open_err2 x y _ h (by simp)).mono ?_; rintro e w1 ⟨rfl, hb1⟩; obtain ⟨g1, rfl⟩ := more_of_below hb1; clear hb1))
  refine bodyPost_ret (v := .tuple #[.agg #[.int .i64 0, .int .i64 0, .int .i64 0, .int .i64 0, .int .i64 0], .int .i64 (oerrL [x, y])]) (by simp [results, Try.results29, go_sem]) rfl ⟨rfl, by (repeat (first | with_reducible assumption | with_reducible exact Below.refl _ _ | with_reducible refine Below.drewN ?_ _ | with_reducible refine Below.drew ?_ | with_reducible refine Below.alloc ?_ (by first | omega | (simp; done) | (simp; omega)) _ | with_reducible refine Below.setCell ?_ (by first | omega | (simp; done) | (simp; omega)) _ | with_reducible refine below_more _ _ ?_ (by first | omega | (simp; done) | (simp; omega))))⟩
set_option maxRecDepth 10000 in
set_option maxHeartbeats 2000000 in
theorem pgcd_ok (x y : Qd) (w : World) (hx : x.oerr = 0) (hy : y.oerr = 0) :
    Calls Try.prog 29 #[.agg #[.int .i64 x.w, .int .i64 x.x, .int .i64 x.y, .int .i64 x.z, .int .i64 x.d], .agg #[.int .i64 y.w, .int .i64 y.x, .int .i64 y.y, .int .i64 y.z, .int .i64 y.d]] w fun e w' => e = .returned (.tuple #[.agg #[.int .i64 ((gcdQ x.rdv y.rdv).toQ).w, .int .i64 ((gcdQ x.rdv y.rdv).toQ).x, .int .i64 ((gcdQ x.rdv y.rdv).toQ).y, .int .i64 ((gcdQ x.rdv y.rdv).toQ).z, .int .i64 ((gcdQ x.rdv y.rdv).toQ).d], .int .i64 0]) ∧ Below w.heap.size w w' := by
  have h : oerrL [x, y] = 0 := by rw [oerrL_two, if_pos hx]; exact hy
  obtain ⟨_, _, hx3, hx4⟩ := Opn.of hx
  obtain ⟨_, _, hy3, hy4⟩ := Opn.of hy
  have CC := Lib.hid (fun w => common_hz x.rdv y.rdv hx3 hy3 (by omega) (by omega) w)
  have CQ := Lib.hid (fun w => quat_in (gcdQ x.rdv y.rdv) (Qt.inR_of_nrm (by have := gcdQ_nrm hx3 hy3 hx4 hy4; omega)) w)
  generalize gcdQ x.rdv y.rdv = G at *
  generalize G.toQ = Q at *
  have HO := Lib.hid (fun W m hm => open_ok2 x y W h (m := m) hm)
  generalize x.rdv = X at *
  generalize y.rdv = Y at *
  clear hx hy hx3 hx4 hy3 hy4 h
  go_enter Try.func29, Try.ntmps29
  go_wp2_with (first | (go_at_call 64; refine (HO.out _ _ (by simp)).mono ?_; rintro e w1 ⟨g, cap, rfl, ⟨hg, ⟨c0, c1, c2, c3⟩, ⟨d0, d1, d2, d3⟩⟩, hb1⟩; obtain ⟨g1, rfl⟩ := more_of_below hb1; clear hb1; simp only [size_more_eq, World.size_alloc] at hg))
  (refine wp_region_calm_tail 8 (Ext _) (by kernel_rfl) (by kernel_rfl) (Ext.start _) ?_; simp only [List.take_succ_cons, List.take_zero, List.drop_succ_cons, List.drop_zero]; (repeat (refine wpQuiet_step (fun K hK => ?_); go_simp; (try go_bits); apply Exists.intro; refine ⟨fun w' hw' => ?_, hK _ ?_⟩; (focus (first | with_reducible exact rfl | (go_at_call 76; (with_reducible exact Ext.call hw' (CC.out _))) | (go_at_call 67; (with_reducible exact Ext.call hw' (CQ.out _))) | (obtain ⟨gx, rfl⟩ := more_of_below (Ext.below hw'); go_simp; exact rfl))); clear hK K)); refine wpQuiet_nil ?_; intro w2 hw2; have hb2 := Ext.below hw2; clear hw2; obtain ⟨g2, rfl⟩ := more_of_below hb2; clear hb2)
  go_wp2
  refine bodyPost_ret (v := .tuple #[.agg #[.int .i64 Q.w, .int .i64 Q.x, .int .i64 Q.y, .int .i64 Q.z, .int .i64 Q.d], .int .i64 0]) (by simp [results, Try.results29, go_sem]) rfl ⟨rfl, by (repeat (first | with_reducible assumption | with_reducible exact Below.refl _ _ | with_reducible refine Below.drewN ?_ _ | with_reducible refine Below.drew ?_ | with_reducible refine Below.alloc ?_ (by first | omega | (simp; done) | (simp; omega)) _ | with_reducible refine Below.setCell ?_ (by first | omega | (simp; done) | (simp; omega)) _ | with_reducible refine below_more _ _ ?_ (by first | omega | (simp; done) | (simp; omega))))⟩
end Go.Proofs.Ythajaabgcbjfkaa

namespace Go.Proofs.Ythajaabgcbjfkaa
open Go.RowKit

theorem rquats_nil (w : World) :
    Calls Try.prog 27 #[.slice none 0 0] w fun e w' => e = .returned (.slice none 0 0) ∧ Below w.heap.size w w' := by
  go_enter Try.func27, Try.ntmps27
  go_wp2
  refine wp_loop_rounds 1 ?_
  rw [rounds_succ]
  go_wp2
  go_ret
  exact ⟨rfl, by (repeat (first | with_reducible assumption | with_reducible exact Below.refl _ _ | with_reducible refine Below.drewN ?_ _ | with_reducible refine Below.drew ?_ | with_reducible refine Below.alloc ?_ (by first | omega | (simp; done) | (simp; omega)) _ | with_reducible refine Below.setCell ?_ (by first | omega | (simp; done) | (simp; omega)) _ | with_reducible refine below_more _ _ ?_ (by first | omega | (simp; done) | (simp; omega))))⟩
set_option maxRecDepth 10000 in
set_option maxHeartbeats 2000000 in
theorem rquats_row (l : List Qt) (g cap : Nat) (w : World) (hl : l.length < 1000000) (hg : g < w.heap.size) (hi : ∀ q ∈ l, q.InR ∧ Qt.Hz q) (hc : ∀ k q, l[k]? = some q → H4 w g k q) :
    Calls Try.prog 27 #[.slice (some ⟨g, 0, none⟩) l.length cap] w fun e w' => ∃ v, e = .returned v ∧ OwnD w' w.heap.size v (l.map Qt.toQ) ∧ Below w.heap.size w w' := by
  have HC : Hid (∀ k q, l[k]? = some q → H4 w g k q) := hc
  clear hc
  obtain ⟨n, hn⟩ : ∃ n, n = l.length := ⟨_, rfl⟩
  have HN := Lib.hid hn
  rw [← hn] at hl ⊢
  clear hn
  go_enter Try.func27, Try.ntmps27
  go_wp2
  go_loopw [3, 4] (fun v i wr => ∃ k : Nat, k ≤ n ∧ i = .int .i64 k ∧ DInv w.heap.size w v ((l.take k).map Qt.toQ) wr) (fun _ i _ => n - (intOf i).toNat)
  case atStart => exact ⟨0, by omega, rfl, OwnD.nil _ _, Below.refl _ _, Nat.le_refl _⟩
  case round =>
    obtain ⟨k, hk, rfl, hown, hB, hz⟩ := hrel
    by_cases hkn : k < n
    · obtain ⟨q, hq⟩ : ∃ q, l[k]? = some q := ⟨l[k]'(by rw [← HN.out]; exact hkn), List.getElem?_eq_getElem _⟩
      have HQC := Lib.hid (rquat_hz q (hi q (List.mem_of_getElem? hq)).1 (hi q (List.mem_of_getElem? hq)).2)
      obtain ⟨e0, e1, e2, e3⟩ := (HC.out k q hq).below hB hg
      have HQ := Lib.hid hq
      have HO := Lib.hid hown
      have HB := Lib.hid hB
      clear hq hown hB
      go_wp2_with (first | (go_at_call 20; with_reducible refine (HQC.out _).mono ?_; rintro e w2 ⟨rfl, hb2⟩; obtain ⟨g2, rfl⟩ := more_of_below hb2; clear hb2) | (at_builtin; go_must (refine append_quat (HO.out.mor _) (w0 := w) (by have hB := HB.out; (repeat (first | with_reducible assumption | with_reducible exact Below.refl _ _ | with_reducible refine Below.drewN ?_ _ | with_reducible refine Below.drew ?_ | with_reducible refine Below.alloc ?_ (by first | omega | (simp; done) | (simp; omega)) _ | with_reducible refine Below.setCell ?_ (by first | omega | (simp; done) | (simp; omega)) _ | with_reducible refine below_more _ _ ?_ (by first | omega | (simp; done) | (simp; omega))))) (by simp; omega) q.toQ (by simp; omega) rfl (.tmp 11) (.tmp 17) rfl (by rfl) (by rfl) (by simp) ?_); intro v2 w2 hown2 hB2 hz2))
      go_roundw
      case rel =>
        refine ⟨k + 1, by omega, by go_num, ?_, hB2, hz2⟩
        rw [take_snoc' HQ.out, List.map_append]; exact hown2
      case measure => simp [intOf]; omega
    · obtain rfl : k = n := by omega
      have hown' : OwnD wr w.heap.size u3 (l.map Qt.toQ) := by have h := hown; rw [List.take_of_length_le (by rw [← HN.out]; exact Nat.le_refl _)] at h; exact h
      have HO := Lib.hid hown'
      clear hown hown'
      go_wp2
      go_ret
      exact ⟨u3, rfl, HO.out, hB⟩
/-- A slice that reads as quaternions. -/
def RdR (w : World) (v : Value) (l : List Qt) : Prop := (v = .slice none 0 0 ∧ l = []) ∨ ∃ g cap, v = .slice (some ⟨g, 0, none⟩) l.length cap ∧ g < w.heap.size ∧ ∀ k q, l[k]? = some q → H4 w g k q
theorem OwnR.rdr {W : World} {base : Nat} {v : Value} {l : List Qt} (h : OwnR W base v l) : RdR W v l := by
  rcases h.rd with h | ⟨g, cap, h1, _, h2, h3⟩
  · exact .inl h
  · exact .inr ⟨g, cap, h1, h2, h3⟩
theorem rquats_any {W : World} {v : Value} {l : List Qt} (h : RdR W v l) (hl : l.length < 1000000) (hi : ∀ q ∈ l, q.InR ∧ Qt.Hz q) :
    Calls Try.prog 27 #[v] W fun e w' => ∃ v', e = .returned v' ∧ OwnD w' W.heap.size v' (l.map Qt.toQ) ∧ Below W.heap.size W w' := by
  rcases h with ⟨rfl, rfl⟩ | ⟨g, cap, rfl, hg, hc⟩
  · refine (rquats_nil W).mono ?_
    rintro e w' ⟨rfl, hb⟩
    exact ⟨_, rfl, OwnD.nil _ _, hb⟩
  · exact rquats_row l g cap W hl hg hi hc

theorem OwnR.base {W : World} {b b' : Nat} {v : Value} {l : List Qt} (h : OwnR W b v l) (hb : b' ≤ b) : OwnR W b' v l := by
  obtain ⟨h1, h2⟩ := h
  refine ⟨h1, ?_⟩
  rcases h2 with h2 | ⟨g', cap, cur, hv, hg, r⟩
  · exact .inl h2
  · exact .inr ⟨g', cap, cur, hv, Nat.le_trans hb hg, r⟩
theorem allH_len {n : Nat} (h2 : n ≤ 30) : (allH n).length ≤ 194481 := by
  have hu : up (4 * n) ≤ 11 := by
    apply Nat.not_lt.1; intro hc
    have := (up_spec (4 * n)).2 11 hc
    omega
  have hb : up (4 * n) - 1 ≤ 10 := by omega
  have h1 := allW_len n (up (4 * n) - 1) (2 * (up (4 * n) - 1) + 1)
  refine Nat.le_trans h1 ?_
  generalize up (4 * n) - 1 = b at *
  have h3 : (2 * b + 1) * ((2 * b + 1) * ((2 * b + 1) * ((2 * b + 1) * 1))) ≤ 21 * (21 * (21 * (21 * 1))) := Nat.mul_le_mul (by omega) (Nat.mul_le_mul (by omega) (Nat.mul_le_mul (by omega) (Nat.mul_le_mul_right 1 (by omega))))
  exact h3
theorem keepC_le (l : List Qt) (t : Nat) : (keepC l t).length ≤ t := Nat.le_trans (List.length_filter_le _ _) (List.length_take_le t l)
/-- What the loop keeps: the list it goes through can still be read. -/
def SInv (B : Nat) (w0 : World) (v : Value) (l : List Qt) (g : Nat) (L : List Qt) (w : World) : Prop := RInv B w0 v l w ∧ g < B ∧ ∀ k q, L[k]? = some q → H4 w0 g k q

set_option maxRecDepth 10000 in
set_option maxHeartbeats 2000000 in
theorem rofNorm_walk (L : List Qt) (hlen : L.length ≤ 194481) (n : Int) (w : World)
    (ha : ∀ w, Calls Try.prog 75 #[.int .i64 n] w fun e w' => ∃ g cap, e = .returned (.slice (some ⟨g, 0, none⟩) L.length cap) ∧ w.heap.size ≤ g ∧ g < w'.heap.size ∧ (∀ k q, L[k]? = some q → H4 w' g k q) ∧ Below w.heap.size w w')
    (hc : ∀ q ∈ L, ∀ w, Calls Try.prog 43 #[.agg #[.int .i64 q.w, .int .i64 q.x, .int .i64 q.y, .int .i64 q.z]] w fun e w' => e = .returned (.agg #[.int .i64 (canon q).w, .int .i64 (canon q).x, .int .i64 (canon q).y, .int .i64 (canon q).z]) ∧ Below w.heap.size w w') :
    Calls Try.prog 28 #[.int .i64 n] w fun e w' => ∃ v, e = .returned v ∧ OwnR w' w.heap.size v (keepC L.reverse L.length) ∧ Below w.heap.size w w' := by
  have HA := Lib.hid ha
  have HC := Lib.hid hc
  clear ha hc
  obtain ⟨N, hN⟩ : ∃ N, N = L.length := ⟨_, rfl⟩
  have HN := Lib.hid hN
  rw [← hN] at HA hlen ⊢
  clear hN
  go_enter Try.func28, Try.ntmps28
  go_wp2_with (first | (go_at_call 75; refine (HA.out _).mono ?_; rintro e w1 ⟨g, cap, rfl, hg0, hg, hr, hb1⟩; have HR := Lib.hid hr; clear hr))
  go_loopw [3, 5] (fun v i wr => ∃ t : Nat, t ≤ N ∧ i = .int .i64 ((N : Int) - 1 - t) ∧ SInv w1.heap.size w1 v (keepC L.reverse t) g L wr) (fun _ i _ => (intOf i + 1).toNat)
  case atStart => exact ⟨0, by omega, by go_num, ⟨OwnR.nil _ _, Below.refl _ _, Nat.le_refl _⟩, hg, HR.out⟩
  case round =>
    obtain ⟨t, ht, rfl, ⟨hown, hB, hz⟩, _, _⟩ := hrel
    generalize hX : (N : Int) - 1 - t = X at *
    by_cases htn : t < N
    · obtain ⟨q, hq⟩ : ∃ q, L[N - 1 - t]? = some q := ⟨L[N - 1 - t]'(by rw [← HN.out]; omega), List.getElem?_eq_getElem _⟩
      have hq2 : L.reverse[t]? = some q := by rw [List.getElem?_reverse (by rw [← HN.out]; exact htn), ← HN.out]; exact hq
      have hXn : X = ((N - 1 - t : Nat) : Int) := by omega
      have hj : N - 1 - t < N := by omega
      generalize N - 1 - t = j at *
      subst hXn
      have CC := Lib.hid (HC.out q (List.mem_of_getElem? hq))
      obtain ⟨e0, e1, e2, e3⟩ := (HR.out j q hq).below hB hg
      have hgw : g < wr.heap.size := by omega
      have HX := Lib.hid hX
      have HQ := Lib.hid hq2
      have HO := Lib.hid hown
      have HB := Lib.hid hB
      clear hq hq2 hown hB hX
      have hk0 : (0 : Int) ≤ (j : Int) := by omega
      have hkN : (j : Int) < (N : Int) := by omega
      cases hcq : (canon q).eqb q
      · have hne : ¬ canon q = q := fun hh => by rw [hh] at hcq; simp [Qt.eqb] at hcq
        have HE := Lib.hid (keepC_no HQ.out hne)
        clear hne
        generalize canon q = Y at *
        go_wp2_with fail
        (refine wp_region_quiet (C := Ext _) (by kernel_rfl) (by kernel_rfl) (Ext.start _) ?_; simp only []; (repeat (refine wpQuiet_step (fun K hK => ?_); go_simp; (try go_bits); apply Exists.intro; refine ⟨fun w' hw' => ?_, hK _ ?_⟩; (focus (first | with_reducible exact rfl | (go_at_call 43; (with_reducible exact Ext.call hw' (CC.out _))) | (obtain ⟨gx, rfl⟩ := more_of_below (Ext.below hw'); go_simp; exact rfl))); clear hK K)); refine wpQuiet_nil ?_; intro w2 hw2; have hb2 := Ext.below hw2; clear hw2; obtain ⟨g2, rfl⟩ := more_of_below hb2; clear hb2)
        go_wp2
        go_roundw
        case rel =>
          refine ⟨t + 1, by omega, by have := HX.out; go_num, ⟨?_, by have hB := HB.out; (repeat (first | with_reducible assumption | with_reducible exact Below.refl _ _ | with_reducible refine Below.drewN ?_ _ | with_reducible refine Below.drew ?_ | with_reducible refine Below.alloc ?_ (by first | omega | (simp; done) | (simp; omega)) _ | with_reducible refine Below.setCell ?_ (by first | omega | (simp; done) | (simp; omega)) _ | with_reducible refine below_more _ _ ?_ (by first | omega | (simp; done) | (simp; omega)))), by simp; omega⟩, hg, HR.out⟩
          rw [HE.out]; exact HO.out.mor _
        case measure => first | (simp [intOf]; done) | (simp [intOf]; omega)
      · have he : canon q = q := Qt.eqb_iff.1 hcq
        have HE := Lib.hid (keepC_yes HQ.out he)
        rw [he] at CC
        clear hcq
        clear he
        have hqq : Qt.eqb ⟨q.w, q.x, q.y, q.z⟩ ⟨q.w, q.x, q.y, q.z⟩ = true := Qt.eqb_iff.2 rfl
        have hkl := keepC_le L.reverse t
        go_wp2_with fail
        (refine wp_region_quiet (C := Ext _) (by kernel_rfl) (by kernel_rfl) (Ext.start _) ?_; simp only []; (repeat (refine wpQuiet_step (fun K hK => ?_); go_simp; (try go_bits); apply Exists.intro; refine ⟨fun w' hw' => ?_, hK _ ?_⟩; (focus (first | with_reducible exact rfl | (go_at_call 43; (with_reducible exact Ext.call hw' (CC.out _))) | (obtain ⟨gx, rfl⟩ := more_of_below (Ext.below hw'); go_simp; exact rfl))); clear hK K)); refine wpQuiet_nil ?_; intro w2 hw2; have hb2 := Ext.below hw2; clear hw2; obtain ⟨g2, rfl⟩ := more_of_below hb2; clear hb2)
        go_wp2_with (first | (at_builtin; go_must (refine append_rhur (HO.out.mor _) (w0 := w1) (by have hB := HB.out; (repeat (first | with_reducible assumption | with_reducible exact Below.refl _ _ | with_reducible refine Below.drewN ?_ _ | with_reducible refine Below.drew ?_ | with_reducible refine Below.alloc ?_ (by first | omega | (simp; done) | (simp; omega)) _ | with_reducible refine Below.setCell ?_ (by first | omega | (simp; done) | (simp; omega)) _ | with_reducible refine below_more _ _ ?_ (by first | omega | (simp; done) | (simp; omega))))) (by simp; omega) q (by omega) rfl (.tmp 25) (.tmp 30) rfl (by rfl) (by rfl) (by simp) ?_); intro v2 w2 hown2 hB2 hz2))
        go_roundw
        case rel =>
          refine ⟨t + 1, by omega, by have := HX.out; go_num, ⟨?_, hB2, hz2⟩, hg, HR.out⟩
          rw [HE.out]; exact hown2
        case measure => first | (simp [intOf]; done) | (simp [intOf]; omega)
    · obtain rfl : t = N := by omega
      have hXm : X = -1 := by omega
      subst hXm
      clear hX
      have HO := Lib.hid (hown.base hb1.size)
      clear hown
      go_wp2
      go_ret
      exact ⟨u3, rfl, HO.out, hb1.trans (hB.mono hb1.size)⟩
theorem rofNorm_any (n : Nat) (h1 : 1 ≤ n) (h2 : n ≤ 30) (hne : allH n ≠ []) (w : World) :
    Calls Try.prog 28 #[.int .i64 ((n : Int))] w fun e w' => ∃ v, e = .returned v ∧ OwnR w' w.heap.size v (ofNormC n) ∧ Below w.heap.size w w' := by
  have hfin : keepC (allH n).reverse (allH n).length = ofNormC n := by
    rw [ofNorm_eq h1]; unfold keepC ofNormR
    rw [List.take_of_length_le (by simp)]
  rw [← hfin]
  refine rofNorm_walk (allH n) (allH_len h2) n w (fun w => (all_any n h1 h2 w).mono ?_) (fun q hq => rcanonical_hz q (by have := (mem_allH.1 hq).2; omega))
  rintro e w1 ⟨v, rfl, hown, hb⟩
  rcases hown.rd with ⟨_, h0⟩ | ⟨g, cap, rfl, h1, h2, h3⟩
  · exact absurd h0 hne
  · exact ⟨g, cap, rfl, h1, h2, h3, hb⟩
end Go.Proofs.Ythajaabgcbjfkaa
