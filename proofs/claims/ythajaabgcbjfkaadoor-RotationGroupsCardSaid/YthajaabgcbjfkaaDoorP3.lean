/- Plain: products of Hurwitz quaternions; left divisors; the common divisor divides. The plain law of the exchange: the common left divisor of a product and of the norm of its second factor. -/
import Derived.Test.YthajaabgcbjfkaaDoorP1
import Derived.Test.YthajaabgcbjfkaaDoorN1
import Derived.Test.YthajaabgcbjfkaaDoorA1
import Derived.Test.YthajaabgcbjfkaaDoorR1
namespace Go.Proofs.YthajaabgcbjfkaaDoor
open Go.RowKit
namespace Qt
def add (a b : Qt) : Qt := ⟨a.w + b.w, a.x + b.x, a.y + b.y, a.z + b.z⟩
def smul (n : Int) (a : Qt) : Qt := ⟨n * a.w, n * a.x, n * a.y, n * a.z⟩
def one : Qt := ⟨2, 0, 0, 0⟩
def zero : Qt := ⟨0, 0, 0, 0⟩
theorem hz_one : Hz one := ⟨1, 0, 0, 0, 0, rfl⟩
theorem hz_zero : Hz zero := ⟨0, 0, 0, 0, 0, rfl⟩
theorem hz_add {a b : Qt} (ha : Hz a) (hb : Hz b) : Hz (a.add b) := by
  rw [hz_iff] at *; simp only [add]; omega
theorem hz_smul {a : Qt} (n : Int) (ha : Hz a) : Hz (smul n a) := by
  obtain ⟨a0, a1, a2, a3, p, rfl⟩ := ha
  exact ⟨n * a0, n * a1, n * a2, n * a3, n * p, by simp only [smul]; apply ext' <;> (simp only; grind)⟩
theorem dbl_inj {a b : Qt} (h : dbl a = dbl b) : a = b := by
  simp only [dbl, Qt.mk.injEq] at h
  exact ext' (by omega) (by omega) (by omega) (by omega)
theorem mul_assoc (a b c : Qt) : (a.mul b).mul c = a.mul (b.mul c) := by
  apply ext' <;> (simp only [mul]; grind)
theorem dbl_mul (a b : Qt) : (dbl a).mul b = dbl (a.mul b) := by apply ext' <;> (simp only [mul, dbl]; grind)
theorem mul_dbl (a b : Qt) : a.mul (dbl b) = dbl (a.mul b) := by apply ext' <;> (simp only [mul, dbl]; grind)
theorem mul_add (a b c : Qt) : a.mul (b.add c) = (a.mul b).add (a.mul c) := by apply ext' <;> (simp only [mul, add]; grind)
theorem add_mul (a b c : Qt) : (a.add b).mul c = (a.mul c).add (b.mul c) := by apply ext' <;> (simp only [mul, add]; grind)
theorem hz_hm {a b : Qt} (ha : Hz a) (hb : Hz b) : Hz (hm a b) := (hm_spec ha hb).1
theorem hm_assoc {a b c : Qt} (ha : Hz a) (hb : Hz b) (hc : Hz c) : hm (hm a b) c = hm a (hm b c) := by
  have h1 := (hm_spec ha hb).2
  have h2 := (hm_spec hb hc).2
  have h3 := (hm_spec (hz_hm ha hb) hc).2
  have h4 := (hm_spec ha (hz_hm hb hc)).2
  apply dbl_inj; apply dbl_inj
  rw [← h3, ← dbl_mul, ← h1, mul_assoc, h2, mul_dbl, h4]
theorem hm_add {a b c : Qt} (ha : Hz a) (hb : Hz b) (hc : Hz c) : hm a (b.add c) = (hm a b).add (hm a c) := by
  have h1 := (hm_spec ha hb).2
  have h2 := (hm_spec ha hc).2
  have h3 := (hm_spec ha (hz_add hb hc)).2
  apply dbl_inj
  rw [← h3, mul_add, h1, h2]
  apply ext' <;> (simp only [dbl, add]; omega)
theorem add_hm {a b c : Qt} (ha : Hz a) (hb : Hz b) (hc : Hz c) : hm (a.add b) c = (hm a c).add (hm b c) := by
  have h1 := (hm_spec ha hc).2
  have h2 := (hm_spec hb hc).2
  have h3 := (hm_spec (hz_add ha hb) hc).2
  apply dbl_inj
  rw [← h3, add_mul, h1, h2]
  apply ext' <;> (simp only [dbl, add]; omega)
theorem tdiv2 (v : Int) : (2 * v).tdiv 2 = v := Int.mul_tdiv_cancel_left _ (by omega)
theorem hm_int (n : Int) (a : Qt) : hm ⟨2 * n, 0, 0, 0⟩ a = smul n a := by
  apply ext' <;> simp only [hm, over, mul, smul]
  · rw [show 2 * n * a.w - 0 * a.x - 0 * a.y - 0 * a.z = 2 * (n * a.w) by grind, tdiv2]
  · rw [show 2 * n * a.x + 0 * a.w + 0 * a.z - 0 * a.y = 2 * (n * a.x) by grind, tdiv2]
  · rw [show 2 * n * a.y + 0 * a.w + 0 * a.x - 0 * a.z = 2 * (n * a.y) by grind, tdiv2]
  · rw [show 2 * n * a.z + 0 * a.w + 0 * a.y - 0 * a.x = 2 * (n * a.z) by grind, tdiv2]
theorem int_hm (n : Int) (a : Qt) : hm a ⟨2 * n, 0, 0, 0⟩ = smul n a := by
  apply ext' <;> simp only [hm, over, mul, smul]
  · rw [show a.w * (2 * n) - a.x * 0 - a.y * 0 - a.z * 0 = 2 * (n * a.w) by grind, tdiv2]
  · rw [show a.w * 0 + a.x * (2 * n) + a.y * 0 - a.z * 0 = 2 * (n * a.x) by grind, tdiv2]
  · rw [show a.w * 0 + a.y * (2 * n) + a.z * 0 - a.x * 0 = 2 * (n * a.y) by grind, tdiv2]
  · rw [show a.w * 0 + a.z * (2 * n) + a.x * 0 - a.y * 0 = 2 * (n * a.z) by grind, tdiv2]
theorem one_smul (a : Qt) : smul 1 a = a := by apply ext' <;> simp only [smul] <;> omega
theorem hm_one (a : Qt) : hm a one = a := by rw [show one = ⟨2 * 1, 0, 0, 0⟩ from rfl, int_hm, one_smul]
theorem one_hm (a : Qt) : hm one a = a := by rw [show one = ⟨2 * 1, 0, 0, 0⟩ from rfl, hm_int, one_smul]
theorem hm_zero (a : Qt) : hm a zero = zero := by
  rw [show zero = ⟨2 * 0, 0, 0, 0⟩ from rfl, int_hm]; apply ext' <;> simp only [smul] <;> omega
theorem zero_hm (a : Qt) : hm zero a = zero := by
  rw [show zero = ⟨2 * 0, 0, 0, 0⟩ from rfl, hm_int]; apply ext' <;> simp only [smul] <;> omega
theorem conj_hm_self {a : Qt} (ha : Hz a) : hm a.conj a = ⟨2 * (a.nrm / 4), 0, 0, 0⟩ := by
  have h4 := hz_nrm ha
  apply dbl_inj
  rw [← (hm_spec (hz_conj ha) ha).2]
  apply ext' <;> simp only [mul, conj, dbl] <;> unfold nrm at * <;> grind
theorem self_hm_conj {a : Qt} (ha : Hz a) : hm a a.conj = ⟨2 * (a.nrm / 4), 0, 0, 0⟩ := by
  have h4 := hz_nrm ha
  apply dbl_inj
  rw [← (hm_spec ha (hz_conj ha)).2]
  apply ext' <;> simp only [mul, conj, dbl] <;> unfold nrm at * <;> grind
theorem hm_eq (x y : Qt) : (x.mul y).over 2 = hm x y := rfl

/-- d divides x from the left. -/
def Dl (d x : Qt) : Prop := ∃ q, Hz q ∧ x = hm d q
theorem Dl.refl (d : Qt) : Dl d d := ⟨one, hz_one, (hm_one d).symm⟩
theorem Dl.nil (d : Qt) : Dl d zero := ⟨zero, hz_zero, (hm_zero d).symm⟩
theorem Dl.add {d x y : Qt} (hd : Hz d) (h : Dl d x) (k : Dl d y) : Dl d (x.add y) := by
  obtain ⟨p, hp, rfl⟩ := h
  obtain ⟨q, hq, rfl⟩ := k
  exact ⟨p.add q, hz_add hp hq, (hm_add hd hp hq).symm⟩
theorem Dl.mul {d x q : Qt} (hd : Hz d) (h : Dl d x) (hq : Hz q) : Dl d (hm x q) := by
  obtain ⟨p, hp, rfl⟩ := h
  exact ⟨hm p q, hz_hm hp hq, hm_assoc hd hp hq⟩
theorem Dl.trans {d x y : Qt} (hd : Hz d) (h : Dl d x) (k : Dl x y) : Dl d y := by
  obtain ⟨q, hq, rfl⟩ := k
  exact h.mul hd hq
theorem Dl.hz {d x : Qt} (hd : Hz d) (h : Dl d x) : Hz x := by
  obtain ⟨p, hp, rfl⟩ := h
  exact hz_hm hd hp
theorem dr_add (x y : Qt) : x = (hm y (x.quo y)).add (x.dr y) := by
  unfold dr rm
  rw [hm_eq]
  apply ext' <;> (simp only [sub, add]; omega)
theorem eq_zero_of_eqb {y : Qt} (h : y.eqb ⟨0, 0, 0, 0⟩ = true) : y = zero := eqb_iff.1 h
end Qt
open Qt in
/-- The common divisor divides both. -/
theorem gcdF_dl : ∀ (k : Nat) (x y : Qt), Hz x → Hz y → y.nrm.toNat ≤ k → Hz (gcdF k x y) ∧ Dl (gcdF k x y) x ∧ Dl (gcdF k x y) y := by
  intro k
  induction k with
  | zero =>
    intro x y hx hy hk
    have hz : y.eqb ⟨0, 0, 0, 0⟩ = true := by
      rw [← Bool.not_eq_false]; intro hc
      have := nrm_pos_of hc; omega
    rw [gcdF_zero _ _ _ hz, eq_zero_of_eqb hz]
    exact ⟨hx, Dl.refl x, Dl.nil x⟩
  | succ k ih =>
    intro x y hx hy hk
    by_cases hz : y.eqb ⟨0, 0, 0, 0⟩ = true
    · rw [gcdF_zero _ _ _ hz, eq_zero_of_eqb hz]
      exact ⟨hx, Dl.refl x, Dl.nil x⟩
    · have hz' : y.eqb ⟨0, 0, 0, 0⟩ = false := by simpa using hz
      have e : gcdF (k + 1) x y = gcdF k y (x.dr y) := if_neg hz
      have hp := nrm_pos_of hz'
      have hd := dr_nrm hx hy hp
      have hn := (x.dr y).nrm_nonneg
      obtain ⟨h1, h2, h3⟩ := ih y (x.dr y) hy (hz_dr hx hy) (by omega)
      rw [e]
      refine ⟨h1, ?_, h2⟩
      have := (h2.mul h1 (hz_quo x y)).add h1 h3
      rwa [← dr_add] at this
open Qt in
/-- What divides both divides the common divisor. -/
theorem dl_gcdF : ∀ (k : Nat) (d x y : Qt), Hz d → Dl d x → Dl d y → Dl d (gcdF k x y) := by
  intro k
  induction k with
  | zero => intro d x y _ h _; exact h
  | succ k ih =>
    intro d x y hd h1 h2
    by_cases hz : y.eqb ⟨0, 0, 0, 0⟩ = true
    · rw [gcdF_zero _ _ _ hz]; exact h1
    · have e : gcdF (k + 1) x y = gcdF k y (x.dr y) := if_neg hz
      rw [e]
      refine ih d y _ hd h2 ?_
      obtain ⟨p, hp, rfl⟩ := h1
      obtain ⟨q, hq, rfl⟩ := h2
      refine ⟨p.sub (hm q ((hm d p).quo (hm d q))), hz_sub hp (hz_hm hq (hz_quo _ _)), ?_⟩
      have hq' := hz_quo (hm d p) (hm d q)
      generalize hQ : (hm d p).quo (hm d q) = Q at *
      have e1 : (hm d p).dr (hm d q) = (hm d p).sub (hm (hm d q) Q) := by unfold dr rm; rw [hm_eq, hQ]
      rw [e1, hm_assoc hd hq hq']
      have e2 := hm_add hd (hz_sub hp (hz_hm hq hq')) (hz_hm hq hq')
      have e3 : (p.sub (hm q Q)).add (hm q Q) = p := by apply ext' <;> (simp only [sub, add]; omega)
      rw [e3] at e2
      rw [e2]
      apply ext' <;> (simp only [sub, add]; omega)
open Qt in
theorem unit_inv {u : Qt} (hu : Hz u) (hn : u.nrm = 4) : hm u u.conj = Qt.one ∧ hm u.conj u = Qt.one := by
  rw [self_hm_conj hu, conj_hm_self hu, hn]; exact ⟨rfl, rfl⟩
open Qt in
theorem canon_hz {x : Qt} (hx : Hz x) : Hz (canon x) ∧ (∃ u, Hz u ∧ u.nrm = 4 ∧ canon x = hm x u) := by
  obtain ⟨_, _, h | ⟨u, hu, h⟩⟩ := canon_spec x
  · rw [h]; exact ⟨hx, Qt.one, hz_one, by decide, (hm_one x).symm⟩
  · obtain ⟨h1, h2⟩ := unitsL_spec hu
    rw [h]; exact ⟨hz_hm hx h2, u, h2, h1, rfl⟩
open Qt in
theorem canon_dl {x : Qt} (hx : Hz x) : Dl (canon x) x ∧ Dl x (canon x) := by
  obtain ⟨_, u, hu, hn, h⟩ := canon_hz hx
  rw [h]
  refine ⟨⟨u.conj, hz_conj hu, ?_⟩, ⟨u, hu, rfl⟩⟩
  rw [hm_assoc hx hu (hz_conj hu), (unit_inv hu hn).1, hm_one]
open Qt in
theorem canon_nrm {x : Qt} (hx : Hz x) : (canon x).nrm = x.nrm := by
  obtain ⟨_, u, hu, hn, h⟩ := canon_hz hx
  have := hm_nrm hx hu
  rw [h]; rw [hn] at this; omega
/-- The common divisor of two. -/
def gcdQ (x y : Qt) : Qt := canon (gcdF y.nrm.toNat x y)
open Qt in
theorem gcdQ_spec {x y : Qt} (hx : Hz x) (hy : Hz y) : Hz (gcdQ x y) ∧ Dl (gcdQ x y) x ∧ Dl (gcdQ x y) y ∧ ∀ d, Hz d → Dl d x → Dl d y → Dl d (gcdQ x y) := by
  obtain ⟨h1, h2, h3⟩ := gcdF_dl _ x y hx hy (Nat.le_refl _)
  obtain ⟨h4, _⟩ := canon_hz h1
  obtain ⟨h5, h6⟩ := canon_dl h1
  exact ⟨h4, h5.trans h4 h2, h5.trans h4 h3, fun d hd a b => (dl_gcdF _ d x y hd a b).trans hd h6⟩
open Qt in
theorem left_over {d q : Qt} (hd : Hz d) (hq : Hz q) : hm d.conj (hm d q) = smul (d.nrm / 4) q := by
  rw [← hm_assoc (hz_conj hd) hd hq, conj_hm_self hd, hm_int]
end Go.Proofs.YthajaabgcbjfkaaDoor

namespace Go.Proofs.YthajaabgcbjfkaaDoor
open Go.RowKit
namespace Qt
/-- g is a sum of right multiples of x and y. -/
def Cb (x y g : Qt) : Prop := ∃ u v, Hz u ∧ Hz v ∧ g = (hm x u).add (hm y v)
theorem Cb.fst (x y : Qt) : Cb x y x := ⟨one, zero, hz_one, hz_zero, by rw [hm_one, hm_zero]; apply ext' <;> simp [add, zero]⟩
theorem gcdF_bez : ∀ (k : Nat) (x y : Qt), Hz x → Hz y → Cb x y (gcdF k x y) := by
  intro k
  induction k with
  | zero => intro x y _ _; exact Cb.fst x y
  | succ k ih =>
    intro x y hx hy
    by_cases hz : y.eqb ⟨0, 0, 0, 0⟩ = true
    · rw [gcdF_zero _ _ _ hz]; exact Cb.fst x y
    · have e : gcdF (k + 1) x y = gcdF k y (x.dr y) := if_neg hz
      rw [e]
      have hr := hz_dr hx hy
      obtain ⟨u, v, hu, hv, e1⟩ := ih y (x.dr y) hy hr
      rw [e1]
      have hQ := hz_quo x y
      have e2 := dr_add x y
      generalize x.quo y = Q at *
      generalize x.dr y = r at *
      have e3 : hm x v = (hm y (hm Q v)).add (hm r v) := by rw [← hm_assoc hy hQ hv, ← add_hm (hz_hm hy hQ) hr hv, ← e2]
      have e4 := hm_add hy (hz_sub hu (hz_hm hQ hv)) (hz_hm hQ hv)
      have e5 : (u.sub (hm Q v)).add (hm Q v) = u := by apply ext' <;> (simp only [sub, add]; omega)
      rw [e5] at e4
      refine ⟨v, u.sub (hm Q v), hv, hz_sub hu (hz_hm hQ hv), ?_⟩
      rw [e3, e4]
      apply ext' <;> (simp only [add]; omega)
theorem gcdQ_bez {x y : Qt} (hx : Hz x) (hy : Hz y) : Cb x y (gcdQ x y) := by
  obtain ⟨u, v, hu, hv, e⟩ := gcdF_bez y.nrm.toNat x y hx hy
  obtain ⟨_, t, ht, _, h⟩ := canon_hz (gcdF_dl _ x y hx hy (Nat.le_refl _)).1
  unfold gcdQ
  rw [h, e, add_hm (hz_hm hx hu) (hz_hm hy hv) ht, hm_assoc hx hu ht, hm_assoc hy hv ht]
  exact ⟨_, _, hz_hm hu ht, hz_hm hv ht, rfl⟩
theorem dot_even {a b : Qt} (ha : Hz a) (hb : Hz b) : ∃ c : Int, a.w * b.w + a.x * b.x + a.y * b.y + a.z * b.z = 2 * c := by
  obtain ⟨a0, a1, a2, a3, p, rfl⟩ := ha
  obtain ⟨b0, b1, b2, b3, q, rfl⟩ := hb
  exact ⟨2 * (a0 * b0 + a1 * b1 + a2 * b2 + a3 * b3) + q * (a0 + a1 + a2 + a3) + p * (b0 + b1 + b2 + b3) + 2 * (p * q), by simp only; grind⟩
theorem nrm_add (a b : Qt) : (a.add b).nrm = a.nrm + b.nrm + 2 * (a.w * b.w + a.x * b.x + a.y * b.y + a.z * b.z) := by simp only [nrm, add]; grind
theorem nrm_sm (n : Int) (q : Qt) : (smul n q).nrm = n * n * q.nrm := by simp only [nrm, smul]; grind
theorem nrm_num (n : Int) : nrm ⟨2 * n, 0, 0, 0⟩ = 4 * (n * n) := by simp only [nrm]; grind
theorem hz_num (n : Int) : Hz ⟨2 * n, 0, 0, 0⟩ := ⟨n, 0, 0, 0, 0, by simp⟩
theorem smul_dot (n : Int) (a v : Qt) : a.w * (smul n v).w + a.x * (smul n v).x + a.y * (smul n v).y + a.z * (smul n v).z = n * (a.w * v.w + a.x * v.x + a.y * v.y + a.z * v.z) := by simp only [smul]; grind
/-- The exchange. -/
theorem exch_plain {X Y : Qt} (hX : Hz X) (hY : Hz Y) (_h1 : 1 ≤ X.nrm / 4) (h2 : 1 ≤ Y.nrm / 4) (hg : Int.gcd (X.nrm / 4) (Y.nrm / 4) = 1) :
    Hz (gcdQ (hm X Y) ⟨2 * (Y.nrm / 4), 0, 0, 0⟩) ∧ ∃ t, Hz t ∧ hm X Y = hm (gcdQ (hm X Y) ⟨2 * (Y.nrm / 4), 0, 0, 0⟩) t ∧ (gcdQ (hm X Y) ⟨2 * (Y.nrm / 4), 0, 0, 0⟩).nrm = Y.nrm ∧ t.nrm = X.nrm := by
  have hZ := hz_hm hX hY
  have zn := hm_nrm hX hY
  have m1 := hz_nrm hX
  have m2 := hz_nrm hY
  obtain ⟨h, hh⟩ : ∃ h, h = X.nrm / 4 := ⟨_, rfl⟩
  obtain ⟨n, hn⟩ : ∃ n, n = Y.nrm / 4 := ⟨_, rfl⟩

  rw [← hn] at h2
  rw [← hh, ← hn] at hg
  have xh : X.nrm = 4 * h := by omega
  have yn : Y.nrm = 4 * n := by omega
  rw [← hn]
  clear hh hn m1 m2
  generalize hm X Y = Z at *
  obtain ⟨hs, ⟨t, ht, et⟩, ⟨t', ht', et'⟩, _⟩ := gcdQ_spec hZ (hz_num n)
  obtain ⟨u, v, hu, hv, es⟩ := gcdQ_bez hZ (hz_num n)
  generalize gcdQ Z ⟨2 * n, 0, 0, 0⟩ = s at *
  have zn' : Z.nrm = 4 * (h * n) := by rw [xh, yn] at zn; have : 4 * h * (4 * n) = 16 * (h * n) := by grind
                                       omega
  -- n divides the norm of s
  have d1 : n ∣ s.nrm / 4 := by
    have hu4 := hz_nrm hu
    have hv4 := hz_nrm hv
    have a1 := hm_nrm hZ hu
    obtain ⟨c, hc⟩ := dot_even (hz_hm hZ hu) hv
    rw [hm_int] at es
    have e := nrm_add (hm Z u) (smul n v)
    rw [← es, nrm_sm, smul_dot, hc] at e
    obtain ⟨u', hu'⟩ : ∃ u', u.nrm = 4 * u' := ⟨u.nrm / 4, by omega⟩
    obtain ⟨v', hv'⟩ : ∃ v', v.nrm = 4 * v' := ⟨v.nrm / 4, by omega⟩
    rw [hu', zn'] at a1
    rw [hv'] at e
    have a2 : 4 * (h * n) * (4 * u') = 16 * (n * (h * u')) := by grind
    have a3 : n * n * (4 * v') = 4 * (n * (n * v')) := by grind
    have a4 : 2 * (n * (2 * c)) = 4 * (n * c) := by grind
    rw [a3, a4] at e
    rw [a2] at a1
    refine ⟨h * u' + n * v' + c, ?_⟩
    have a5 : n * (h * u' + n * v' + c) = n * (h * u') + n * (n * v') + n * c := by grind
    rw [a5]; omega
  -- the norm of s divides n
  have s4 := hz_nrm hs
  have s0 := s.nrm_nonneg
  have k1 := hm_nrm hs ht
  have k2 := hm_nrm hs ht'
  rw [← et] at k1
  rw [← et', nrm_num] at k2
  obtain ⟨s', hs'⟩ : ∃ s', s.nrm = 4 * s' := ⟨s.nrm / 4, by omega⟩
  obtain ⟨b, hb⟩ : ∃ b, t.nrm = 4 * b := ⟨t.nrm / 4, by have := hz_nrm ht; omega⟩
  obtain ⟨b', hb'⟩ : ∃ b', t'.nrm = 4 * b' := ⟨t'.nrm / 4, by have := hz_nrm ht'; omega⟩
  have ss : s.nrm / 4 = s' := by omega
  rw [ss] at d1
  rw [hs', hb, zn'] at k1
  rw [hs', hb'] at k2
  have f1 : 4 * s' * (4 * b) = 16 * (s' * b) := by grind
  have f2 : 4 * s' * (4 * b') = 16 * (s' * b') := by grind
  rw [f1] at k1
  rw [f2] at k2
  have g1 : s' ∣ h * n := ⟨b, by omega⟩
  have g2 : s' ∣ n * n := ⟨b', by omega⟩
  have d2 : s' ∣ n := by
    have hd := Int.dvd_coe_gcd g1 g2
    rw [Int.gcd_mul_right, hg, Nat.one_mul] at hd
    exact Int.dvd_natAbs.1 hd
  have hsn : s' = n := Int.dvd_antisymm (by omega) (by omega) d2 d1
  subst hsn
  have hbh : b = h := by
    have : s' * b = s' * h := by rw [Int.mul_comm s' h]; omega
    exact Int.eq_of_mul_eq_mul_left (by omega) this
  exact ⟨hs, t, ht, et, by omega, by omega⟩
/-- What stands behind s in s t. -/
theorem before_plain {s t : Qt} (hs : Hz s) (ht : Hz t) (h : 1 ≤ s.nrm / 4) : (s.conj.mul (hm s t)).over (2 * (s.nrm / 4)) = t := by
  have h1 := left_over hs ht
  have h2 := (hm_spec (hz_conj hs) (hz_hm hs ht)).2
  rw [h2, h1]
  generalize s.nrm / 4 = n at *
  have k : ∀ a : Int, (2 * (n * a)).tdiv (2 * n) = a := fun a => by rw [← Int.mul_assoc]; exact Int.mul_tdiv_cancel_left _ (by omega)
  apply ext' <;> (simp only [over, dbl, smul]; exact k _)
end Qt
theorem gcdL_two (a b : Int) : gcdL [a, b] = Int.gcd a b := by simp [gcdL, Int.gcd_eq_natAbs_gcd_natAbs]
end Go.Proofs.YthajaabgcbjfkaaDoor
