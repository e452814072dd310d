/- Plain: what the reference reads of an element is what the program reads. Plain: the reference's Quat and Divide are the program's. -/
import Derived.Test.YthajaabgcbjfkaaDoorH1
import Derived.Test.YthajaabgcbjfkaaDoorH3
namespace Go.Proofs.YthajaabgcbjfkaaDoor
open Go.RowKit

def Qt.ltb (a b : Qt) : Bool := decide (a.w < b.w) || (decide (a.w = b.w) && (decide (a.x < b.x) || (decide (a.x = b.x) && (decide (a.y < b.y) || (decide (a.y = b.y) && decide (a.z < b.z))))))
theorem Qt.ltb_w {a b : Qt} (h : ¬ a.w = b.w) : b.ltb a = decide (b.w < a.w) := by
  have : ¬ b.w = a.w := fun e => h e.symm
  simp [Qt.ltb, this]
theorem Qt.ltb_x {a b : Qt} (h0 : a.w = b.w) (h : ¬ a.x = b.x) : b.ltb a = decide (b.x < a.x) := by
  have : ¬ b.x = a.x := fun e => h e.symm
  simp [Qt.ltb, this, h0]
theorem Qt.ltb_y {a b : Qt} (h0 : a.w = b.w) (h1 : a.x = b.x) (h : ¬ a.y = b.y) : b.ltb a = decide (b.y < a.y) := by
  have : ¬ b.y = a.y := fun e => h e.symm
  simp [Qt.ltb, this, h0, h1]
theorem Qt.ltb_z {a b : Qt} (h0 : a.w = b.w) (h1 : a.x = b.x) (h2 : a.y = b.y) : b.ltb a = decide (b.z < a.z) := by
  simp [Qt.ltb, h0, h1, h2]
def igcd (a b : Int) : Int := ((Int.gcd a b : Nat) : Int)
theorem igcd_nonneg (a b : Int) : 0 ≤ igcd a b := by unfold igcd; omega
theorem igcd_dvd_left (a b : Int) : igcd a b ∣ a := Int.gcd_dvd_left ..
theorem igcd_dvd_right (a b : Int) : igcd a b ∣ b := Int.gcd_dvd_right ..
theorem dvd_igcd {a b c : Int} (h1 : c ∣ a) (h2 : c ∣ b) : c ∣ igcd a b := Int.dvd_coe_gcd h1 h2

/-- The divisor of Lowest. -/
def Qd.lg (q : Qd) : Int := igcd (igcd (igcd q.w q.x) (igcd q.y q.z)) q.d
def Qd.low (q : Qd) : Qd := ⟨q.w.tdiv q.lg, q.x.tdiv q.lg, q.y.tdiv q.lg, q.z.tdiv q.lg, q.d.tdiv q.lg⟩
def Qd.oddb (q : Qd) : Bool := (q.w.tmod 2 != 0) && ((q.x.tmod 2 != 0) && ((q.y.tmod 2 != 0) && (q.z.tmod 2 != 0)))
/-- What the reference's Of returns. -/
def Qd.ofOk (q : Qd) : Bool := q.okb && ((q.low.d == 1) || (q.low.oddb && decide (q.low.d ≤ 2)))
def Qd.ofv (q : Qd) : Qt := if q.okb then (if q.low.d == 1 then ⟨2 * q.low.w, 2 * q.low.x, 2 * q.low.y, 2 * q.low.z⟩ else if q.low.oddb then ⟨q.low.w, q.low.x, q.low.y, q.low.z⟩ else ⟨0, 0, 0, 0⟩) else ⟨0, 0, 0, 0⟩

theorem Qd.lg_dvd (q : Qd) : q.lg ∣ q.w ∧ q.lg ∣ q.x ∧ q.lg ∣ q.y ∧ q.lg ∣ q.z ∧ q.lg ∣ q.d := by
  have h1 : q.lg ∣ igcd (igcd q.w q.x) (igcd q.y q.z) := igcd_dvd_left _ _
  have h2 := Int.dvd_trans h1 (igcd_dvd_left _ _)
  have h3 := Int.dvd_trans h1 (igcd_dvd_right _ _)
  exact ⟨Int.dvd_trans h2 (igcd_dvd_left _ _), Int.dvd_trans h2 (igcd_dvd_right _ _), Int.dvd_trans h3 (igcd_dvd_left _ _), Int.dvd_trans h3 (igcd_dvd_right _ _), igcd_dvd_right _ _⟩
theorem Qd.lg_pos {q : Qd} (h : 1 ≤ q.d) : 1 ≤ q.lg := by
  have h0 : 0 ≤ q.lg := igcd_nonneg _ _
  have h1 := q.lg_dvd.2.2.2.2
  apply Int.not_lt.1
  intro hc
  have : q.lg = 0 := by omega
  rw [this] at h1
  have := Int.zero_dvd.1 h1
  omega
theorem Qd.dvd_lg {q : Qd} {c : Int} (h1 : c ∣ q.w) (h2 : c ∣ q.x) (h3 : c ∣ q.y) (h4 : c ∣ q.z) (h5 : c ∣ q.d) : c ∣ q.lg :=
  dvd_igcd (dvd_igcd (dvd_igcd h1 h2) (dvd_igcd h3 h4)) h5
theorem tdiv_dvd {a g : Int} (h : g ∣ a) : a = g * a.tdiv g := (Int.mul_tdiv_cancel' h).symm
/-- q is g times its lowest form; g times c divides each if c divides all of the lowest form. -/
theorem Qd.low_eq (q : Qd) : q.w = q.lg * q.low.w ∧ q.x = q.lg * q.low.x ∧ q.y = q.lg * q.low.y ∧ q.z = q.lg * q.low.z ∧ q.d = q.lg * q.low.d := by
  obtain ⟨h1, h2, h3, h4, h5⟩ := q.lg_dvd
  exact ⟨tdiv_dvd h1, tdiv_dvd h2, tdiv_dvd h3, tdiv_dvd h4, tdiv_dvd h5⟩
theorem Qd.low_cop {q : Qd} (hd : 1 ≤ q.d) {c : Int} (hc : 0 ≤ c) (h1 : c ∣ q.low.w) (h2 : c ∣ q.low.x) (h3 : c ∣ q.low.y) (h4 : c ∣ q.low.z) (h5 : c ∣ q.low.d) : c = 1 := by
  obtain ⟨e1, e2, e3, e4, e5⟩ := q.low_eq
  have hg := Qd.lg_pos hd
  have key : q.lg * c ∣ q.lg := by
    have m : ∀ {a b : Int}, a = q.lg * b → c ∣ b → q.lg * c ∣ a := fun {a b} ha hb => by rw [ha]; exact Int.mul_dvd_mul_left _ hb
    exact Qd.dvd_lg (m e1 h1) (m e2 h2) (m e3 h3) (m e4 h4) (m e5 h5)
  obtain ⟨k, hk⟩ := key
  have h6 : q.lg * (c * k) = q.lg * 1 := by rw [← Int.mul_assoc, ← hk, Int.mul_one]
  have h7 : c * k = 1 := Int.eq_of_mul_eq_mul_left (by omega) h6
  exact Int.eq_one_of_dvd_one hc ⟨k, h7.symm⟩
theorem Qd.low_d_pos {q : Qd} (hd : 1 ≤ q.d) : 1 ≤ q.low.d := by
  obtain ⟨_, _, _, _, e5⟩ := q.low_eq
  have hg := Qd.lg_pos hd
  apply Int.not_lt.1
  intro hc
  have : q.lg * q.low.d ≤ q.lg * 0 := Int.mul_le_mul_of_nonneg_left (by omega) (by omega)
  omega
theorem tdiv_scale {g a d : Int} (hg : 1 ≤ g) : (2 * (g * a)).tdiv (g * d) = (2 * a).tdiv d := by
  rw [show 2 * (g * a) = g * (2 * a) by grind]
  exact Int.mul_tdiv_mul_of_pos _ _ (by omega)
theorem tmod_scale {g a d : Int} (hg : 1 ≤ g) : (2 * (g * a)).tmod (g * d) = 0 ↔ d ∣ 2 * a := by
  rw [show 2 * (g * a) = g * (2 * a) by grind, ← Int.dvd_iff_tmod_eq_zero]
  exact Int.mul_dvd_mul_iff_left (by omega)
theorem Qd.rdv_low {q : Qd} (hd : 1 ≤ q.d) : q.rdv = ⟨(2 * q.low.w).tdiv q.low.d, (2 * q.low.x).tdiv q.low.d, (2 * q.low.y).tdiv q.low.d, (2 * q.low.z).tdiv q.low.d⟩ := by
  have hg := Qd.lg_pos hd
  obtain ⟨e1, e2, e3, e4, e5⟩ := q.low_eq
  unfold Qd.rdv
  apply Qt.ext' <;> simp only
  · conv => lhs; rw [e1, e5]
    exact tdiv_scale hg
  · conv => lhs; rw [e2, e5]
    exact tdiv_scale hg
  · conv => lhs; rw [e3, e5]
    exact tdiv_scale hg
  · conv => lhs; rw [e4, e5]
    exact tdiv_scale hg
theorem Qd.rdok_iff (q : Qd) : q.rdok = true ↔ (q.d ∣ 2 * q.w ∧ q.d ∣ 2 * q.x ∧ q.d ∣ 2 * q.y ∧ q.d ∣ 2 * q.z) ∧ (q.rdv.x - q.rdv.w) % 2 = 0 ∧ (q.rdv.y - q.rdv.w) % 2 = 0 ∧ (q.rdv.z - q.rdv.w) % 2 = 0 := by
  simp only [Qd.rdok, Bool.and_eq_true, Bool.not_eq_true', bne_eq_false_iff_eq, Qd.rdv, ← tmod2, Int.dvd_iff_tmod_eq_zero]
  constructor
  · rintro ⟨a, b, c, d, e, f, g⟩; exact ⟨⟨a, b, c, d⟩, e, f, g⟩
  · rintro ⟨⟨a, b, c, d⟩, e, f, g⟩; exact ⟨a, b, c, d, e, f, g⟩
theorem Qd.dvd_low {q : Qd} (hd : 1 ≤ q.d) : (q.d ∣ 2 * q.w ↔ q.low.d ∣ 2 * q.low.w) ∧ (q.d ∣ 2 * q.x ↔ q.low.d ∣ 2 * q.low.x) ∧ (q.d ∣ 2 * q.y ↔ q.low.d ∣ 2 * q.low.y) ∧ (q.d ∣ 2 * q.z ↔ q.low.d ∣ 2 * q.low.z) := by
  have hg := Qd.lg_pos hd
  obtain ⟨e1, e2, e3, e4, e5⟩ := q.low_eq
  have m : ∀ {a b : Int}, a = q.lg * b → (q.d ∣ 2 * a ↔ q.low.d ∣ 2 * b) := fun {a b} ha => by
    rw [Int.dvd_iff_tmod_eq_zero]
    conv => lhs; rw [ha, e5]
    exact tmod_scale hg
  exact ⟨m e1, m e2, m e3, m e4⟩
theorem dvd_two {d : Int} (h1 : 1 ≤ d) (h : d ∣ 2) : d = 1 ∨ d = 2 := by
  have := Int.le_of_dvd (by omega) h
  omega
theorem Qd.oddb_iff (q : Qd) : q.oddb = true ↔ q.w % 2 = 1 ∧ q.x % 2 = 1 ∧ q.y % 2 = 1 ∧ q.z % 2 = 1 := by
  have t : ∀ x : Int, (x.tmod 2 != 0) = true ↔ x % 2 = 1 := fun x => by
    rw [bne_iff_ne, ne_eq, tmod2]; omega
  simp only [Qd.oddb, Bool.and_eq_true, t]
/-- The two readings agree. -/
theorem Qd.of_spec {q : Qd} (h : q.okb = true) : q.ofOk = q.rdok ∧ (q.rdok = true → q.ofv = q.rdv) := by
  have h' := h
  simp only [Qd.okb, decide_eq_true_eq] at h'
  have hd : 1 ≤ q.d := h'.2.2.2.2.1
  have hd' := Qd.low_d_pos hd
  obtain ⟨d1, d2, d3, d4⟩ := Qd.dvd_low hd
  have hr := Qd.rdok_iff q
  rw [d1, d2, d3, d4] at hr
  rw [Qd.rdv_low hd] at hr
  simp only at hr
  unfold Qd.ofOk Qd.ofv
  rw [h]
  simp only [Bool.true_and, if_true]
  by_cases c1 : q.low.d = 1
  · have e1 : (q.low.d == 1) = true := by rw [c1]; rfl
    have hrt : q.rdok = true := by
      rw [hr, c1]
      simp only [Int.tdiv_one]
      refine ⟨⟨Int.one_dvd _, Int.one_dvd _, Int.one_dvd _, Int.one_dvd _⟩, ?_, ?_, ?_⟩ <;> omega
    rw [e1, hrt]
    refine ⟨rfl, fun _ => ?_⟩
    rw [Qd.rdv_low hd, c1]
    simp only [Int.tdiv_one, if_true]
  · have e1 : (q.low.d == 1) = false := beq_eq_false_iff_ne.2 c1
    rw [e1]
    simp only [Bool.false_or, Bool.false_eq_true, if_false]
    have fwd : q.rdok = true → q.low.d = 2 := fun hk => by
      obtain ⟨⟨a, b, c, d⟩, _⟩ := hr.1 hk
      -- low.d divides 2 times the gcd, and is coprime to it
      have cop : q.low.d ∣ 2 := by
        have key : ∀ c : Int, 0 ≤ c → c ∣ q.low.w → c ∣ q.low.x → c ∣ q.low.y → c ∣ q.low.z → c ∣ q.low.d → c = 1 := fun c hc h1 h2 h3 h4 h5 => Qd.low_cop hd hc h1 h2 h3 h4 h5
        have a' : q.low.d ∣ igcd (igcd (2 * q.low.w) (2 * q.low.x)) (igcd (2 * q.low.y) (2 * q.low.z)) := dvd_igcd (dvd_igcd a b) (dvd_igcd c d)
        have e2 : ∀ u v : Int, igcd (2 * u) (2 * v) = 2 * igcd u v := fun u v => by unfold igcd; rw [Int.gcd_mul_left]; rfl
        rw [e2, e2, e2] at a'
        generalize hG : igcd (igcd q.low.w q.low.x) (igcd q.low.y q.low.z) = G at a'
        have hGd : igcd G q.low.d = 1 := by
          have k0 : igcd G q.low.d ∣ G := igcd_dvd_left _ _
          have k1 : igcd G q.low.d ∣ igcd q.low.w q.low.x := Int.dvd_trans k0 (hG ▸ igcd_dvd_left _ _)
          have k2 : igcd G q.low.d ∣ igcd q.low.y q.low.z := Int.dvd_trans k0 (hG ▸ igcd_dvd_right _ _)
          exact key _ (igcd_nonneg _ _) (Int.dvd_trans k1 (igcd_dvd_left _ _)) (Int.dvd_trans k1 (igcd_dvd_right _ _)) (Int.dvd_trans k2 (igcd_dvd_left _ _)) (Int.dvd_trans k2 (igcd_dvd_right _ _)) (igcd_dvd_right _ _)
        have h3 : Nat.Coprime q.low.d.natAbs G.natAbs := by
          unfold igcd at hGd
          rw [Int.gcd_eq_natAbs_gcd_natAbs] at hGd
          show Nat.gcd _ _ = 1
          rw [Nat.gcd_comm]; omega
        have h4 : q.low.d.natAbs ∣ 2 * G.natAbs := by have := Int.natAbs_dvd_natAbs.2 a'; rwa [Int.natAbs_mul] at this
        exact Int.natAbs_dvd_natAbs.1 (h3.dvd_of_dvd_mul_right h4)
      rcases dvd_two hd' cop with h2 | h2
      · exact absurd h2 c1
      · exact h2
    by_cases c2 : q.low.d = 2
    · have t2 : ∀ u : Int, (2 * u).tdiv 2 = u := fun u => Int.mul_tdiv_cancel_left _ (by omega)
      have ho : q.low.oddb = true ↔ q.rdok = true := by
        rw [hr, Qd.oddb_iff, c2]
        simp only [t2]
        constructor
        · rintro ⟨a, b, c, d⟩
          refine ⟨⟨Int.dvd_mul_right _ _, Int.dvd_mul_right _ _, Int.dvd_mul_right _ _, Int.dvd_mul_right _ _⟩, ?_, ?_, ?_⟩ <;> omega
        · rintro ⟨_, b, c, d⟩
          have : q.low.w % 2 = 1 := by
            apply Decidable.byContradiction
            intro hn
            have := Qd.low_cop hd (c := 2) (by omega) (by omega) (by omega) (by omega) (by omega) (by omega)
            omega
          omega
      refine ⟨?_, fun hk => ?_⟩
      · rw [c2]
        simp only [show decide ((2 : Int) ≤ 2) = true from rfl, Bool.and_true]
        exact Bool.eq_iff_iff.2 ho
      · rw [if_pos (ho.2 hk), Qd.rdv_low hd, c2]
        simp only [t2]
    · have hf : q.rdok = false := by
        rw [← Bool.not_eq_true]; exact fun hk => c2 (fwd hk)
      rw [hf]
      refine ⟨?_, fun h => by cases h⟩
      have : decide (q.low.d ≤ 2) = false := by simp; omega
      rw [this, Bool.and_false]
end Go.Proofs.YthajaabgcbjfkaaDoor

namespace Go.Proofs.YthajaabgcbjfkaaDoor
open Go.RowKit
namespace Qt

theorem low_two {a b c d : Int} : (Qd.low ⟨a, b, c, d, 2⟩).d = 1 ∨ (Qd.low ⟨a, b, c, d, 2⟩).d = 2 := by
  have h := Qd.low_eq ⟨a, b, c, d, 2⟩
  have h5 : (2 : Int) = (Qd.lg ⟨a, b, c, d, 2⟩) * (Qd.low ⟨a, b, c, d, 2⟩).d := h.2.2.2.2
  exact dvd_two (Qd.low_d_pos (q := ⟨a, b, c, d, 2⟩) (by simp only; omega)) ⟨_, by rw [Int.mul_comm]; exact h5⟩
/-- The element of a Hurwitz quaternion, in lowest terms. -/
theorem toQ_low {h : Qt} (hh : Hz h) : Qd.low ⟨h.w, h.x, h.y, h.z, 2⟩ = h.toQ := by
  obtain ⟨e1, e2, e3, e4, e5⟩ := Qd.low_eq ⟨h.w, h.x, h.y, h.z, 2⟩
  have cop := fun c => Qd.low_cop (q := ⟨h.w, h.x, h.y, h.z, 2⟩) (by simp only; omega) (c := c)
  rw [hz_iff] at hh
  obtain ⟨p1, p2, p3⟩ := hh
  have hd := low_two (a := h.w) (b := h.x) (c := h.y) (d := h.z)
  generalize hl : Qd.low ⟨h.w, h.x, h.y, h.z, 2⟩ = l at *
  generalize hg : Qd.lg ⟨h.w, h.x, h.y, h.z, 2⟩ = g at *
  simp only at e1 e2 e3 e4 e5
  unfold toQ
  rcases hd with hd | hd
  · rw [hd, Int.mul_one] at e5
    subst e5
    rw [if_pos (by omega)]
    have t : ∀ u v : Int, u = 2 * v → u.tdiv 2 = v := fun u v huv => by rw [huv]; exact Int.mul_tdiv_cancel_left _ (by omega)
    rw [t _ _ e1, t _ _ e2, t _ _ e3, t _ _ e4]
    cases l; simp only at hd; subst hd; rfl
  · rw [hd] at e5
    have : g = 1 := by omega
    subst this
    have hne : ¬ h.w % 2 = 0 := fun hw => by
      have := cop 2 (by omega) (by omega) (by omega) (by omega) (by omega) (by omega)
      omega
    rw [if_neg hne]
    cases l
    simp only [Int.one_mul] at *
    subst hd; subst e1; subst e2; subst e3; subst e4; rfl

/-- The candidates, as the reference reckons them: t is the product's half. -/
theorem quo_ref (t n : Int) (_hn : 1 ≤ n) : (2 * (2 * t) + 4 * n) / (2 * (4 * n)) = (t + n) / (2 * n) ∧ (2 * t) / (4 * n) = t / (2 * n) := by
  constructor
  · rw [show 2 * (2 * t) + 4 * n = 4 * (t + n) by omega, show 2 * (4 * n) = 4 * (2 * n) by omega]
    exact Int.mul_ediv_mul_of_pos _ _ (by omega)
  · rw [show 4 * n = 2 * (2 * n) by omega]
    exact Int.mul_ediv_mul_of_pos _ _ (by omega)
def qaR (t : Qt) (n : Int) : Qt := ⟨2 * ((t.w + n) / (2 * n)), 2 * ((t.x + n) / (2 * n)), 2 * ((t.y + n) / (2 * n)), 2 * ((t.z + n) / (2 * n))⟩
def qbR (t : Qt) (n : Int) : Qt := ⟨2 * (t.w / (2 * n)) + 1, 2 * (t.x / (2 * n)) + 1, 2 * (t.y / (2 * n)) + 1, 2 * (t.z / (2 * n)) + 1⟩
theorem qaR_eq {x y : Qt} (hx : Hz x) (hy : Hz y) (h0 : 1 ≤ y.nrm) : qaR (hm y.conj x) (y.nrm / 4) = x.qa y ∧ qbR (hm y.conj x) (y.nrm / 4) = x.qb y := by
  have h4 := hz_nrm hy
  have hn : 1 ≤ y.nrm / 4 := by omega
  have hp := (hm_spec (hz_conj hy) hx).2
  have w := congrArg Qt.w hp; have x' := congrArg Qt.x hp; have y' := congrArg Qt.y hp; have z := congrArg Qt.z hp
  simp only [dbl] at w x' y' z
  constructor
  · unfold qaR qa
    rw [w, x', y', z, (quo_ref _ _ hn).1, (quo_ref _ _ hn).1, (quo_ref _ _ hn).1, (quo_ref _ _ hn).1]
  · unfold qbR qb
    rw [w, x', y', z, (quo_ref _ _ hn).2, (quo_ref _ _ hn).2, (quo_ref _ _ hn).2, (quo_ref _ _ hn).2]
/-- What is divided is put together again. -/
theorem dr_back {x y : Qt} (_hx : Hz x) (_hy : Hz y) : (⟨0, 0, 0, 0⟩ : Qt).sub (((⟨0, 0, 0, 0⟩ : Qt).sub (hm y (x.quo y))).sub (x.dr y)) = x := by
  unfold dr rm
  rw [show (y.mul (x.quo y)).over 2 = hm y (x.quo y) from rfl]
  apply ext' <;> (simp only [sub]; omega)
end Qt
end Go.Proofs.YthajaabgcbjfkaaDoor
