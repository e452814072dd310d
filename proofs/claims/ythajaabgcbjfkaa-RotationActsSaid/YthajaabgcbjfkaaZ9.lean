/- The law RotationActs. -/
import Derived.Test.YthajaabgcbjfkaaY7
import Derived.Test.YthajaabgcbjfkaaY8
namespace Go.Proofs.Ythajaabgcbjfkaa
open Go.RowKit

theorem lens_all : (List.range 32).all (fun p => !prB p || (ofNormE p).length == (if p = 2 then 1 else p + 1)) = true := by decide +kernel
theorem len_prime {p : Nat} (hp : Prm p) (h : p ≤ 31) : (ofNormC p).length = if p = 2 then 1 else p + 1 := by
  have := List.all_eq_true.1 lens_all p (List.mem_range.2 (by omega))
  rw [(prB_eq (by omega)).2 hp] at this
  rw [ofNormE_eq]
  simpa using this
theorem permC_of (x : Qd) (p n : Nat) (hx : x.oerr = 0) (hp : Prm p) (h31 : p ≤ 31) (hd : ¬ x.rdv.nrm / 4 % (p : Int) = 0) (hl : ¬ 1000000 < (p : Int) * (x.rdv.nrm / 4)) (hn : n = (ofNormC p).length) (h1 : 1 ≤ n) : PermC x p n (permJ p x.rdv) := fun w => by
  refine (pperm_ok x p hx hp (by omega) hd hl (fun e => by rw [e] at hn; simp at hn; omega) w).mono ?_
  rintro e w' ⟨v, rfl, h, hb⟩
  obtain ⟨g, c, e, hr⟩ := h.row (by rw [List.length_map, permJ_len, ← hn]; omega)
  rw [List.length_map, permJ_len, ← hn] at e
  subst e
  exact ⟨g, c, rfl, hr, hb⟩
theorem law_acts (x y : Qd) (p : Int) (_ : -9223372036854775808 ≤ p) (_ : p ≤ 9223372036854775807) (w : World) :
    Calls Try.prog 11 #[.agg #[.int .i64 x.w, .int .i64 x.x, .int .i64 x.y, .int .i64 x.z, .int .i64 x.d], .agg #[.int .i64 y.w, .int .i64 y.x, .int .i64 y.y, .int .i64 y.z, .int .i64 y.d], .int .i64 p] w fun e w' => e = .returned (.bool true) ∧ Below w.heap.size w w' := by
  by_cases h2 : p < 2
  · exact acts_p x y p (.inl h2) w
  by_cases h3 : 31 < p
  · exact acts_p x y p (.inr h3) w
  have ea := rerr_any x
  have eb := rerr_any y
  by_cases hx : x.oerr = 0
  rotate_left
  · exact acts_e1 x y p (by omega) (by omega) _ hx ea w
  rw [hx] at ea
  by_cases hy : y.oerr = 0
  rotate_left
  · exact acts_e2 x y p (by omega) (by omega) _ hy ea eb w
  rw [hy] at eb
  obtain ⟨P, rfl⟩ : ∃ P : Nat, p = P := ⟨p.toNat, by omega⟩
  have pr := fun b hb => rprime_in (P : Int) (by omega) b hb
  rw [Int.toNat_natCast] at pr
  by_cases hp : Prm P
  rotate_left
  · exact acts_np x y P (by omega) (by omega) ea eb (pr false (by simp [hp])) w
  have pt := pr true (by simp [hp])
  obtain ⟨x1, x2, x3, x4⟩ := Opn.of hx
  obtain ⟨y1, y2, y3, y4⟩ := Opn.of hy
  have ox := rof_ok x x1 x2
  have oy := rof_ok y y1 y2
  have nx := rnorm_in x.rdv (by omega)
  have ny := rnorm_in y.rdv (by omega)
  have n0 := x.rdv.nrm_nonneg
  have m0 := y.rdv.nrm_nonneg
  have bN : 0 ≤ x.rdv.nrm / 4 ∧ x.rdv.nrm / 4 ≤ 1000000 := by omega
  have bM : 0 ≤ y.rdv.nrm / 4 ∧ y.rdv.nrm / 4 ≤ 1000000 := by omega
  by_cases c1 : 1000 < x.rdv.nrm / 4
  · exact acts_n1 x y P (by omega) (by omega) _ _ _ _ c1 ea eb pt ox oy nx ny w
  by_cases c2 : 1000 < y.rdv.nrm / 4
  · exact acts_n2 x y P (by omega) (by omega) _ _ _ _ c1 c2 ea eb pt ox oy nx ny w
  by_cases c3 : x.rdv.nrm / 4 % (P : Int) = 0
  · exact acts_n3 x y P (by omega) (by omega) _ _ _ _ bN c1 c2 c3 ea eb pt ox oy nx ny w
  by_cases c4 : y.rdv.nrm / 4 % (P : Int) = 0
  · exact acts_n4 x y P (by omega) (by omega) _ _ _ _ bN bM c1 c2 c3 c4 ea eb pt ox oy nx ny w
  by_cases c5 : 1000000 < (P : Int) * (x.rdv.nrm / 4) * (y.rdv.nrm / 4)
  · exact acts_n5 x y P (by omega) (by omega) _ _ _ _ bN bM c1 c2 c3 c4 c5 ea eb pt ox oy nx ny w
  have hX := pm_of x3 hp c3
  have hY := pm_of y3 hp c4
  have q1 := hX.n1
  have q2 := hY.n1
  have hP1 : 1 ≤ P := by omega
  have hl := len_prime hp (by omega)
  have hZ := Qt.hz_hm x3 y3
  have zn := Qt.hm_nrm x3 y3
  have m1 := Qt.hz_nrm x3
  have m2 := Qt.hz_nrm y3
  have f : (Qt.hm x.rdv y.rdv).nrm = 4 * (x.rdv.nrm / 4 * (y.rdv.nrm / 4)) := by
    have f1 : x.rdv.nrm = 4 * (x.rdv.nrm / 4) := by omega
    have f2 : y.rdv.nrm = 4 * (y.rdv.nrm / 4) := by omega
    have f3 : x.rdv.nrm * y.rdv.nrm = 16 * (x.rdv.nrm / 4 * (y.rdv.nrm / 4)) := by
      generalize x.rdv.nrm / 4 = a at *
      generalize y.rdv.nrm / 4 = b at *
      rw [f1, f2]; grind
    omega
  have f4 : (Qt.hm x.rdv y.rdv).nrm / 4 = x.rdv.nrm / 4 * (y.rdv.nrm / 4) := by omega
  have l0 : (P : Int) * (x.rdv.nrm / 4 * (y.rdv.nrm / 4)) ≤ 1000000 := by rw [← Int.mul_assoc]; omega
  have pos : 1 ≤ x.rdv.nrm / 4 * (y.rdv.nrm / 4) := by
    have := Int.mul_le_mul q1 q2 (by omega) (by omega); omega
  have l1 : x.rdv.nrm / 4 * (y.rdv.nrm / 4) ≤ 1000000 := by
    have := Int.mul_le_mul (show (1 : Int) ≤ P by omega) (Int.le_refl (x.rdv.nrm / 4 * (y.rdv.nrm / 4))) (by omega) (by omega)
    omega
  have l2 : (P : Int) * (x.rdv.nrm / 4) ≤ 1000000 := by
    have := Int.mul_le_mul (Int.le_refl ((P : Int) * (x.rdv.nrm / 4))) q2 (by omega) (Int.mul_nonneg (by omega) (by omega))
    omega
  have l3 : (P : Int) * (y.rdv.nrm / 4) ≤ 1000000 := by
    have := Int.mul_le_mul q1 (Int.le_refl ((P : Int) * (y.rdv.nrm / 4))) (Int.mul_nonneg (by omega) (by omega)) (by omega)
    have e : x.rdv.nrm / 4 * ((P : Int) * (y.rdv.nrm / 4)) = (P : Int) * (x.rdv.nrm / 4) * (y.rdv.nrm / 4) := by
      generalize x.rdv.nrm / 4 = a
      generalize y.rdv.nrm / 4 = b
      grind
    omega
  have tz := fun w => ptimes_ok x y w hx hy (by omega)
  have zr := rdv_toQ hZ
  have zo := oerr_toQ hZ (by omega)
  have hZp : Pm P (Qt.hm x.rdv y.rdv) := ⟨hZ, by omega, by
    rw [f4, Int.gcd_comm]
    rw [Int.gcd_comm]
    have g1 : Nat.Coprime (x.rdv.nrm / 4).natAbs P := by have := hX.gc; rwa [Int.gcd_eq_natAbs_gcd_natAbs, Int.natAbs_natCast] at this
    have g2 : Nat.Coprime (y.rdv.nrm / 4).natAbs P := by have := hY.gc; rwa [Int.gcd_eq_natAbs_gcd_natAbs, Int.natAbs_natCast] at this
    rw [Int.gcd_eq_natAbs_gcd_natAbs, Int.natAbs_natCast, Int.natAbs_mul]
    exact Nat.Coprime.mul_left g1 g2⟩
  have zd : ¬ (Qt.hm x.rdv y.rdv).nrm / 4 % (P : Int) = 0 := fun hc => by
    have hg := hZp.gc
    have := Int.gcd_eq_right (a := (Qt.hm x.rdv y.rdv).nrm / 4) (b := (P : Int)) (by omega) (Int.dvd_of_emod_eq_zero hc)
    omega
  have hq : (⟨(P : Int) + 1, 0, 0, 0, 1⟩ : Qd).oerr = 0 ∧ (⟨(P : Int) + 1, 0, 0, 0, 1⟩ : Qd).rdv = Qt.num ((P : Int) + 1) := by
    have hz := Qt.hz_nm ((P : Int) + 1)
    have e : (Qt.num ((P : Int) + 1)).toQ = ⟨(P : Int) + 1, 0, 0, 0, 1⟩ := by
      have e0 : (2 * ((P : Int) + 1)) % 2 = 0 := by omega
      have e1 : (2 * ((P : Int) + 1)).tdiv 2 = (P : Int) + 1 := Qt.tdiv2 _
      unfold Qt.toQ Qt.num
      simp only [e0, if_true, e1]
      rfl
    rw [← e]
    refine ⟨oerr_toQ hz ?_, rdv_toQ hz⟩
    have := Int.mul_le_mul (show (P : Int) + 1 ≤ 32 by omega) (show (P : Int) + 1 ≤ 32 by omega) (by omega) (by omega)
    have e2 : (Qt.num ((P : Int) + 1)).nrm = 4 * (((P : Int) + 1) * ((P : Int) + 1)) := Qt.nrm_num _
    omega
  have e2 : (Qt.num ((P : Int) + 1)).nrm = 4 * (((P : Int) + 1) * ((P : Int) + 1)) := Qt.nrm_num _
  have e3 : ((P : Int) + 1) * ((P : Int) + 1) ≤ 32 * 32 := Int.mul_le_mul (by omega) (by omega) (by omega) (by omega)
  have e5 : (Qt.num ((P : Int) + 1)).nrm / 4 = ((P : Int) + 1) * ((P : Int) + 1) := by omega
  have e6 : ((P : Int) + 1) * ((P : Int) + 1) % (P : Int) = 1 := by
    have : ((P : Int) + 1) * ((P : Int) + 1) = 1 + (P : Int) * (P + 2) := by grind
    rw [this, Int.add_mul_emod_self_left]
    exact Int.emod_eq_of_lt (by omega) (by omega)
  have hgp : Int.gcd ((P : Int) + 1) P = 1 := prm_gcd hp (by
    rw [Int.add_emod, Int.emod_self, Int.zero_add, Int.emod_emod]
    rw [Int.emod_eq_of_lt (by omega) (by omega)]; omega)
  have pD : PermC ⟨(P : Int) + 1, 0, 0, 0, 1⟩ P (ofNormC P).length (permJ P (Qt.num ((P : Int) + 1))) := by
    rw [← hq.2]
    refine permC_of _ P _ hq.1 hp (by omega) ?_ ?_ rfl (by rw [hl]; split <;> omega)
    · rw [hq.2, e5, e6]; omega
    · rw [hq.2, e5]
      have := Int.mul_le_mul (show (P : Int) ≤ 31 by omega) e3 (Int.mul_nonneg (by omega) (by omega)) (by omega)
      omega
  have len1 : 1 ≤ (ofNormC P).length := by rw [hl]; split <;> omega
  have pA := permC_of x P _ hx hp (by omega) c3 (by omega) rfl len1
  have pB := permC_of y P _ hy hp (by omega) c4 (by omega) rfl len1
  have pC := permC_of (Qt.hm x.rdv y.rdv).toQ P _ zo hp (by omega) (by rw [zr]; exact zd) (by rw [zr, f4]; omega) rfl len1
  rw [zr] at pC
  have aA := fun k hk => permJ_all (k := k) hP1 hX hk
  have aB := fun k hk => permJ_all (k := k) hP1 hY hk
  have hmul := fun k hk => permJ_mul (k := k) hP1 hX hY hk
  have hone := fun k hk => permJ_num (k := k) hP1 hgp hk
  by_cases hp2 : P = 2
  · rw [if_pos hp2] at hl
    exact acts_main2 x y P (by omega) (by omega) _ _ _ _ bN bM c1 c2 c3 c4 c5 _ ⟨by omega, hl⟩ _ _ _ _ _ (permJ_len _) (permJ_len _) aA aB hmul hone ea eb pt ox oy nx ny tz pA pB pC pD w
  · rw [if_neg hp2] at hl
    exact acts_mainp x y P (by omega) (by omega) _ _ _ _ bN bM c1 c2 c3 c4 c5 _ ⟨by omega, by omega⟩ _ _ _ _ _ (permJ_len _) (permJ_len _) aA aB hmul hone ea eb pt ox oy nx ny tz pA pB pC pD w
end Go.Proofs.Ythajaabgcbjfkaa
