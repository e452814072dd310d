/- Plain: the content of a Hurwitz quaternion. Contracts: Canonical, Content, IsHurwitz of the program; Over and Content of the reference. -/
import Derived.Test.YthajaabgcbjfkaaDoorP3
import Derived.Test.YthajaabgcbjfkaaDoorW1
namespace Go.Proofs.YthajaabgcbjfkaaDoor
open Go.RowKit

theorem dvd_g4 {d a b c e : Int} (h1 : d ∣ a) (h2 : d ∣ b) (h3 : d ∣ c) (h4 : d ∣ e) : d ∣ g4 a b c e := by
  unfold g4
  rw [Int.ofNat_dvd_right]
  unfold gcdL
  simp only [List.foldl_cons, List.foldl_nil]
  exact Nat.dvd_gcd (Nat.dvd_gcd (Nat.dvd_gcd (Nat.dvd_gcd (Nat.dvd_zero _) (Int.natAbs_dvd_natAbs.2 h1)) (Int.natAbs_dvd_natAbs.2 h2)) (Int.natAbs_dvd_natAbs.2 h3)) (Int.natAbs_dvd_natAbs.2 h4)
theorem mul_even (a : Int) {b : Int} (h : b % 2 = 0) : (a * b) % 2 = 0 := by
  obtain ⟨c, rfl⟩ := Int.dvd_of_emod_eq_zero h
  rw [Int.mul_left_comm]; omega
theorem odd_mul {a : Int} (b : Int) (h : a % 2 = 1) : (a * b) % 2 = b % 2 := by
  have e : a = 2 * (a / 2) + 1 := by omega
  rw [e, Int.add_mul, Int.one_mul, Int.mul_assoc]; omega
namespace Qt
/-- The common divisor of the four numbers. -/
def gq (x : Qt) : Int := g4 x.w x.x x.y x.z
/-- A number is even. -/
def evb (y : Qt) : Bool := (y.w.tmod 2 == 0) || ((y.x.tmod 2 == 0) || ((y.y.tmod 2 == 0) || (y.z.tmod 2 == 0)))
/-- The content, as the Go text finds it. -/
def ctn (x : Qt) : Int := if (x.over x.gq).evb then x.gq / 2 else x.gq
/-- The quotient by a number is a Hurwitz quaternion, as the reference asks. -/
def ovok (h : Qt) (m : Int) : Bool := (!(h.w.tmod m != 0)) && ((!(h.x.tmod m != 0)) && ((!((h.x.tdiv m - h.w.tdiv m) % 2 != 0)) && ((!(h.y.tmod m != 0)) && ((!((h.y.tdiv m - h.w.tdiv m) % 2 != 0)) && ((!(h.z.tmod m != 0)) && (!((h.z.tdiv m - h.w.tdiv m) % 2 != 0)))))))
theorem evb_iff (y : Qt) : y.evb = true ↔ y.w % 2 = 0 ∨ y.x % 2 = 0 ∨ y.y % 2 = 0 ∨ y.z % 2 = 0 := by
  simp only [evb, Bool.or_eq_true, beq_iff_eq, tmod2]
theorem ovok_iff {h : Qt} {m : Int} (hm : 1 ≤ m) : h.ovok m = true ↔ ∃ q, Hz q ∧ h = smul m q := by
  simp only [ovok, Bool.and_eq_true, Bool.not_eq_true', bne_eq_false_iff_eq]
  constructor
  · rintro ⟨t0, t1, p1, t2, p2, t3, p3⟩
    refine ⟨h.over m, (hz_iff _).2 ⟨p1, p2, p3⟩, ?_⟩
    have t : ∀ a : Int, a.tmod m = 0 → a = m * a.tdiv m := fun a ha => tdiv_dvd (Int.dvd_of_tmod_eq_zero ha)
    exact ext' (t _ t0) (t _ t1) (t _ t2) (t _ t3)
  · rintro ⟨q, hq, rfl⟩
    have t : ∀ a : Int, (m * a).tmod m = 0 ∧ (m * a).tdiv m = a := fun a => ⟨Int.mul_tmod_right .., Int.mul_tdiv_cancel_left _ (by omega)⟩
    obtain ⟨p1, p2, p3⟩ := (hz_iff q).1 hq
    simp only [smul, t]
    exact ⟨trivial, trivial, p1, trivial, p2, trivial, p3⟩
set_option maxHeartbeats 2000000 in
theorem ctn_spec {x : Qt} (hx : Hz x) (h0 : x.eqb ⟨0, 0, 0, 0⟩ = false) : 1 ≤ x.ctn ∧ x.ctn ≤ x.gq ∧ x.ovok x.ctn = true ∧ ∀ m, x.ctn < m → m ≤ x.gq → x.ovok m = false := by
  have g1 : 1 ≤ x.gq := g4_pos h0
  have ho := over_g4 x
  have hd : ∀ d, d ∣ x.w → d ∣ x.x → d ∣ x.y → d ∣ x.z → d ∣ x.gq := fun d a b c e => dvd_g4 a b c e
  have hc : x.ctn = if (x.over x.gq).evb then x.gq / 2 else x.gq := rfl
  change x.w = x.gq * (x.over x.gq).w ∧ x.x = x.gq * (x.over x.gq).x ∧ x.y = x.gq * (x.over x.gq).y ∧ x.z = x.gq * (x.over x.gq).z at ho
  generalize x.over x.gq = y at *
  generalize x.gq = g at *
  generalize x.ctn = c at *
  obtain ⟨a0, a1, a2, a3⟩ := ho
  have nev : ¬ (y.w % 2 = 0 ∧ y.x % 2 = 0 ∧ y.y % 2 = 0 ∧ y.z % 2 = 0) := fun ⟨e0, e1, e2, e3⟩ => by
    have t : ∀ a b : Int, a = g * b → b % 2 = 0 → 2 * g ∣ a := fun a b h k => by
      obtain ⟨d, rfl⟩ := Int.dvd_of_emod_eq_zero k
      exact ⟨d, by rw [h, Int.mul_left_comm, Int.mul_assoc]⟩
    have := Int.le_of_dvd (by omega) (hd _ (t _ _ a0 e0) (t _ _ a1 e1) (t _ _ a2 e2) (t _ _ a3 e3))
    omega
  have hxy : x = smul g y := ext' a0 a1 a2 a3
  obtain ⟨p1, p2, p3⟩ := (hz_iff x).1 hx
  cases hev : y.evb
  · rw [hev] at hc
    simp only [Bool.false_eq_true, if_false] at hc
    subst hc
    refine ⟨g1, Int.le_refl _, (ovok_iff g1).2 ⟨y, ?_, hxy⟩, fun m h1 h2 => by omega⟩
    have hn : ¬ (y.w % 2 = 0 ∨ y.x % 2 = 0 ∨ y.y % 2 = 0 ∨ y.z % 2 = 0) := fun h => by rw [← evb_iff, hev] at h; exact Bool.noConfusion h
    rw [hz_iff]; omega
  · rw [hev] at hc
    simp only [if_true] at hc
    have he := (evb_iff y).1 hev
    have ge : g % 2 = 0 := by
      rcases Int.emod_two_eq g with h | h
      · exact h
      · have q0 := odd_mul y.w h; have q1 := odd_mul y.x h; have q2 := odd_mul y.y h; have q3 := odd_mul y.z h
        rw [← a0] at q0; rw [← a1] at q1; rw [← a2] at q2; rw [← a3] at q3
        exfalso; apply nev; omega
    have gc : g = 2 * c := by omega
    refine ⟨by omega, by omega, (ovok_iff (by omega)).2 ⟨smul 2 y, ⟨y.w, y.x, y.y, y.z, 0, by simp [smul]⟩, ?_⟩, fun m h1 h2 => ?_⟩
    · rw [hxy, gc]
      apply ext' <;> simp only [smul] <;> rw [Int.mul_comm 2, Int.mul_assoc]
    · cases ho : x.ovok m
      · rfl
      · obtain ⟨q, hq, hxq⟩ := (ovok_iff (by omega)).1 ho
        have hm : m ∣ g := hd m ⟨q.w, by rw [hxq]; rfl⟩ ⟨q.x, by rw [hxq]; rfl⟩ ⟨q.y, by rw [hxq]; rfl⟩ ⟨q.z, by rw [hxq]; rfl⟩
        obtain ⟨t, ht⟩ := hm
        have ht1 : t = 1 := by
          have t0 : 0 < t := by
            apply Int.not_le.1; intro hle
            have := Int.mul_le_mul_of_nonneg_left hle (show 0 ≤ m by omega)
            omega
          apply Int.le_antisymm
          · apply Int.not_lt.1; intro hlt
            have := Int.mul_le_mul_of_nonneg_left (show 2 ≤ t by omega) (show 0 ≤ m by omega)
            omega
          · omega
        subst ht1
        obtain rfl : g = m := by omega
        have e : ∀ a b : Int, g * a = g * b → a = b := fun a b h => Int.eq_of_mul_eq_mul_left (by omega) h
        rw [hxy] at hxq
        have e0 := e _ _ (congrArg Qt.w hxq); have e1 := e _ _ (congrArg Qt.x hxq); have e2 := e _ _ (congrArg Qt.y hxq); have e3 := e _ _ (congrArg Qt.z hxq)
        have hqq := (hz_iff q).1 hq
        exfalso; apply nev; omega
theorem gq_le {x : Qt} {B : Int} (hB : 0 ≤ B) (h : Bd B x) : 0 ≤ x.gq ∧ x.gq ≤ B := by
  obtain ⟨h0, h1, h2, h3⟩ := h
  have := gcdL_le [x.w, x.x, x.y, x.z] B.toNat (fun y hy => by
    simp only [List.mem_cons, List.not_mem_nil, or_false] at hy
    rcases hy with rfl | rfl | rfl | rfl <;> omega)
  unfold gq g4
  omega
theorem gq_igcd (x : Qt) : igcd (igcd x.w x.x) (igcd x.y x.z) = x.gq := by
  unfold gq g4 igcd gcdL
  simp only [List.foldl_cons, List.foldl_nil, Nat.gcd_zero_left, Int.gcd_eq_natAbs_gcd_natAbs, Int.natAbs_natCast, Nat.gcd_assoc]
end Qt
end Go.Proofs.YthajaabgcbjfkaaDoor
