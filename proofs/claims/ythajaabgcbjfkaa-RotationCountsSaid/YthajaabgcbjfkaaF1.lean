/- Plain: the number of factorizations along a model. -/
import Derived.Test.YthajaabgcbjfkaaX5
namespace Go.Proofs.Ythajaabgcbjfkaa
open Go.RowKit

namespace Qt
theorem smul_add (n : Int) (a b : Qt) : smul n (a.add b) = (smul n a).add (smul n b) := by
  apply ext' <;> simp only [smul, add, Int.mul_add]
/-- p divides the content just if it divides the quaternion. -/
theorem ctn_dvd {h : Qt} {p : Nat} (hz : Hz h) (h0 : h.eqb ⟨0, 0, 0, 0⟩ = false) (hp : Prm p) : h.ctn % (p : Int) = 0 ↔ ∃ q, Hz q ∧ h = smul p q := by
  obtain ⟨c1, c2, c3, c4⟩ := ctn_spec hz h0
  obtain ⟨a, ha, ea⟩ := (ovok_iff (by omega)).1 c3
  have p2 := hp.1
  constructor
  · intro hd
    obtain ⟨m, hm⟩ := Int.dvd_of_emod_eq_zero hd
    refine ⟨smul m a, hz_smul m ha, ?_⟩
    rw [smul_smul, ← hm]; exact ea
  · rintro ⟨q, hq, eq⟩
    apply Decidable.byContradiction; intro hd
    have hg := prm_gcd hp hd
    obtain ⟨u, v, huv⟩ := bezI h.ctn p
    rw [hg, Int.natCast_one] at huv
    have e : a = smul p ((smul u q).add (smul v a)) := by
      have e1 : a = smul (h.ctn * u + p * v) a := by rw [huv, one_smul]
      have e2 : smul (h.ctn * u + p * v) a = (smul (u * h.ctn) a).add (smul (p * v) a) := by rw [add_smul, Int.mul_comm h.ctn u]
      have e3 : smul (u * h.ctn) a = smul p (smul u q) := by
        rw [← smul_smul, ← ea, smul_smul, Int.mul_comm (p : Int) u, ← smul_smul u (p : Int) q, ← eq]
      have e4 : smul (p * v) a = smul p (smul v a) := (smul_smul _ _ _).symm
      rw [e3, e4] at e2
      rw [e2] at e1
      rw [smul_add]; exact e1
    have hw : Hz ((smul u q).add (smul v a)) := hz_add (hz_smul u hq) (hz_smul v ha)
    generalize (smul u q).add (smul v a) = b at *
    have eb : h = smul (h.ctn * p) b := by rw [← smul_smul, ← e]; exact ea
    have hle := Int.le_of_dvd (by omega) (dvd_gq eb)
    have hlt : h.ctn < h.ctn * p := by
      have := Int.mul_lt_mul_of_pos_left (show (1 : Int) < p by omega) (show 0 < h.ctn by omega)
      omega
    have := c4 _ hlt hle
    rw [(ovok_iff (by omega)).2 ⟨b, hw, eb⟩] at this
    exact absurd this (by decide)
theorem dl_num {d : Qt} {p : Nat} (hd : Hz d) (hn : d.nrm = 4 * (p : Int)) : hm d d.conj = num p := by
  rw [self_hm_conj hd, hn]
  have : 4 * (p : Int) / 4 = p := by omega
  rw [this]; rfl
theorem dl_num' {d : Qt} {p : Nat} (hd : Hz d) (hn : d.nrm = 4 * (p : Int)) : hm d.conj d = num p := by
  rw [conj_hm_self hd, hn]
  have : 4 * (p : Int) / 4 = p := by omega
  rw [this]; rfl
theorem step_unique {h d : Qt} {p : Nat} (hz : Hz h) (hnp : ¬ ∃ q, Hz q ∧ h = smul p q) (hp : Prm p) (hd : (p : Int) ∣ h.nrm / 4) (d1 : Hz d) (d2 : d.nrm = 4 * (p : Int)) (d3 : canon d = d) (hdl : Dl d h) : d = gcdQ h (num p) := by
  have p2 := hp.1
  obtain ⟨t, s1, s2, s3, s4, _, _, s7⟩ := fac_step' hz hnp hp hd
  have g := (gcdQ_spec hz (hz_nm p)).2.2.2 d d1 hdl ⟨d.conj, hz_conj d1, (dl_num d1 d2).symm⟩
  generalize gcdQ h (num p) = s at *
  obtain ⟨u, hu, eu⟩ := g
  have k := hm_nrm d1 hu
  rw [← eu, s4, d2] at k
  have hu4 : u.nrm = 4 := by
    have k2 : 4 * (p : Int) * u.nrm = 4 * p * 4 := by rw [← k, Int.mul_comm]
    exact Int.eq_of_mul_eq_mul_left (by omega) k2
  obtain ⟨i1, _⟩ := unit_inv hu hu4
  have ed : d = hm s u.conj := by rw [eu, hm_assoc d1 hu (hz_conj hu), i1, hm_one]
  have := canon_eq d1 s1 ⟨u, hu, eu⟩ ⟨u.conj, hz_conj hu, ed⟩
  rw [d3, s7] at this; exact this
theorem all_dvd {q d : Qt} {p : Nat} (hq : Hz q) (d1 : Hz d) (d2 : d.nrm = 4 * (p : Int)) : Dl d (smul p q) :=
  ⟨hm d.conj q, hz_hm (hz_conj d1) hq, by rw [← hm_assoc d1 (hz_conj d1) hq, dl_num d1 d2, num_hm]⟩
theorem lq_dl {d h : Qt} (hd : Hz d) (h1 : 1 ≤ d.nrm / 4) (hdl : Dl d h) : Hz (lq d h) ∧ h = hm d (lq d h) := by
  obtain ⟨t, ht, e⟩ := hdl
  have : lq d h = t := by rw [e]; exact lq_eq hd ht h1
  rw [this]; exact ⟨ht, e⟩
/-- Does d divide h on the left? -/
def dvb (d h : Qt) : Bool := (hm d.conj h).ovok (d.nrm / 4)
theorem dvb_iff {d h : Qt} (hd : Hz d) (hz : Hz h) (h1 : 1 ≤ d.nrm / 4) : dvb d h = true ↔ Dl d h := by
  unfold dvb
  rw [ovok_iff h1]
  constructor
  · rintro ⟨t, ht, e⟩
    refine ⟨t, ht, ?_⟩
    have e2 : hm d (hm d.conj h) = hm d (smul (d.nrm / 4) t) := by rw [e]
    rw [← hm_assoc hd (hz_conj hd) hz, self_hm_conj hd, hm_int, hm_smul _ hd ht] at e2
    have inj : ∀ a b : Int, d.nrm / 4 * a = d.nrm / 4 * b → a = b := fun a b h => Int.eq_of_mul_eq_mul_left (by omega) h
    injection e2 with a1 a2 a3 a4
    exact ext' (inj _ _ a1) (inj _ _ a2) (inj _ _ a3) (inj _ _ a4)
  · rintro ⟨t, ht, e⟩
    exact ⟨t, ht, by rw [e, left_over hd ht]⟩
end Qt
/-- The program's count. -/
def cntQ : List Int → Qt → Int
  | [], _ => 1
  | [_], _ => 1
  | p :: q :: l, x => if x.ctn % p = 0 then ((ofNormC p.toNat).map fun d => 24 * cntQ (q :: l) (Qt.lq d x)).sum else 24 * cntQ (q :: l) (Qt.lq (gcdQ x (Qt.num p)) x)
/-- The reference's count. -/
def cntR : List Int → Qt → Int
  | [], _ => 1
  | [_], _ => 1
  | p :: q :: l, x => ((ofNormC p.toNat).map fun d => if Qt.dvb d x then 24 * cntR (q :: l) (Qt.lq d x) else 0).sum
theorem sum_zero {L : List Qt} {f : Qt → Int} (h : ∀ d ∈ L, f d = 0) : (L.map f).sum = 0 := by
  induction L with
  | nil => rfl
  | cons a L ih => rw [List.map_cons, List.sum_cons, h a (List.mem_cons_self ..), ih (fun d hd => h d (List.mem_cons_of_mem _ hd))]; rfl
theorem sum_single {L : List Qt} {f : Qt → Int} {s : Qt} (hn : L.Nodup) (hs : s ∈ L) (h : ∀ d ∈ L, d ≠ s → f d = 0) : (L.map f).sum = f s := by
  induction L with
  | nil => simp at hs
  | cons a L ih =>
    rw [List.map_cons, List.sum_cons]
    obtain ⟨n1, n2⟩ := List.nodup_cons.1 hn
    rcases List.mem_cons.1 hs with rfl | hs
    · rw [sum_zero (fun d hd => h d (List.mem_cons_of_mem _ hd) (fun e => n1 (e ▸ hd)))]; omega
    · rw [h a (List.mem_cons_self ..) (fun e => n1 (e ▸ hs)), ih n2 hs (fun d hd => h d (List.mem_cons_of_mem _ hd))]; omega
/-- What is counted: a quaternion whose norm is the model's product. -/
structure Cnt (l : List Int) (x : Qt) : Prop where
  hz : Qt.Hz x
  ok : ∀ p ∈ l, okP p = true
  nr : x.nrm / 4 = prodZ l
theorem Cnt.nz {l : List Int} {x : Qt} (h : Cnt l x) : x.eqb ⟨0, 0, 0, 0⟩ = false := by
  rw [← Bool.not_eq_true]; intro hc
  have h1 := prodZ_pos h.ok
  rw [← h.nr, Qt.eq_zero_of_eqb hc] at h1
  exact absurd h1 (by decide)
theorem Cnt.prm {p : Int} {l : List Int} {x : Qt} (h : Cnt (p :: l) x) : 2 ≤ p ∧ Prm p.toNat := ⟨(okP_two (h.ok p (List.mem_cons_self ..))).1, (okP_iff.1 (h.ok p (List.mem_cons_self ..))).2⟩
theorem Cnt.dv {p : Int} {l : List Int} {x : Qt} (h : Cnt (p :: l) x) : ((p.toNat : Nat) : Int) ∣ x.nrm / 4 := by
  obtain ⟨p2, _⟩ := h.prm
  rw [h.nr, prodZ_cons, show ((p.toNat : Nat) : Int) = p by omega]
  exact ⟨_, rfl⟩
theorem mem_of {p : Int} (p2 : 2 ≤ p) {d : Qt} (h : d ∈ ofNormC p.toNat) : Qt.Hz d ∧ d.nrm = 4 * ((p.toNat : Nat) : Int) ∧ canon d = d := (mem_ofNormC (by omega)).1 h
/-- A step by a divisor of norm p. -/
theorem Cnt.step {p : Int} {l : List Int} {x d : Qt} (h : Cnt (p :: l) x) (d1 : Qt.Hz d) (d2 : d.nrm = 4 * ((p.toNat : Nat) : Int)) (hd : Qt.Dl d x) : Cnt l (Qt.lq d x) := by
  obtain ⟨p2, hp⟩ := h.prm
  obtain ⟨t1, t2⟩ := Qt.lq_dl d1 (by omega) hd
  refine ⟨t1, fun q hq => h.ok q (List.mem_cons_of_mem _ hq), ?_⟩
  have k := Qt.hm_nrm d1 t1
  rw [← t2, d2] at k
  have k1 := Qt.hz_nrm t1
  have k2 := Qt.hz_nrm h.hz
  have k3 := h.nr
  rw [prodZ_cons] at k3
  generalize (Qt.lq d x).nrm = t at *
  obtain ⟨t', rfl⟩ : ∃ t', t = 4 * t' := ⟨t / 4, by omega⟩
  have e4 : 4 * ((p.toNat : Nat) : Int) * (4 * t') = 16 * (p * t') := by rw [show ((p.toNat : Nat) : Int) = p by omega]; grind
  rw [e4] at k
  have e5 : p * t' = p * prodZ l := by rw [← k3]; omega
  have := Int.eq_of_mul_eq_mul_left (by omega) e5
  omega
theorem Cnt.gcd {p : Int} {l : List Int} {x : Qt} (h : Cnt (p :: l) x) (hc : ¬ x.ctn % p = 0) : Qt.Hz (gcdQ x (Qt.num p)) ∧ (gcdQ x (Qt.num p)).nrm = 4 * ((p.toNat : Nat) : Int) ∧ Qt.Dl (gcdQ x (Qt.num p)) x ∧ gcdQ x (Qt.num p) ∈ ofNormC p.toNat ∧ ∀ d ∈ ofNormC p.toNat, Qt.Dl d x → d = gcdQ x (Qt.num p) := by
  obtain ⟨p2, hp⟩ := h.prm
  obtain ⟨P, rfl⟩ : ∃ P : Nat, p = P := ⟨p.toNat, by omega⟩
  have hd := h.dv
  rw [Int.toNat_natCast] at hp hd ⊢
  have hnp : ¬ ∃ q, Qt.Hz q ∧ x = Qt.smul P q := fun hq => hc ((Qt.ctn_dvd h.hz h.nz hp).2 hq)
  obtain ⟨t, s1, s2, s3, s4, _, _, s7⟩ := Qt.fac_step' h.hz hnp hp hd
  refine ⟨s1, s4, ⟨t, s2, s3⟩, (mem_ofNormC (by omega)).2 ⟨s1, s4, s7⟩, fun d hm hdl => ?_⟩
  obtain ⟨d1, d2, d3⟩ := (mem_ofNormC (by omega)).1 hm
  exact Qt.step_unique h.hz hnp hp hd d1 d2 d3 hdl
theorem Cnt.all {p : Int} {l : List Int} {x : Qt} (h : Cnt (p :: l) x) (hc : x.ctn % p = 0) : ∀ d ∈ ofNormC p.toNat, Qt.Dl d x := by
  obtain ⟨p2, hp⟩ := h.prm
  obtain ⟨P, rfl⟩ : ∃ P : Nat, p = P := ⟨p.toNat, by omega⟩
  rw [Int.toNat_natCast] at hp ⊢
  obtain ⟨q, hq, e⟩ := (Qt.ctn_dvd h.hz h.nz hp).1 hc
  intro d hm
  obtain ⟨d1, d2, d3⟩ := (mem_ofNormC (by omega)).1 hm
  rw [e]; exact Qt.all_dvd hq d1 d2
theorem sum_congr {L : List Qt} {f g : Qt → Int} (h : ∀ d ∈ L, f d = g d) : (L.map f).sum = (L.map g).sum := by
  rw [List.map_congr_left h]
theorem cnt_same : ∀ (l : List Int) (x : Qt), Cnt l x → cntR l x = cntQ l x
  | [], _, _ => rfl
  | [_], _, _ => rfl
  | p :: q :: l, x, h => by
    obtain ⟨p2, hp⟩ := h.prm
    have ih := cnt_same (q :: l)
    rw [cntR, cntQ]
    by_cases hc : x.ctn % p = 0
    · rw [if_pos hc]
      refine sum_congr fun d hm => ?_
      have hd := h.all hc d hm
      obtain ⟨d1, d2, d3⟩ := mem_of p2 hm
      rw [if_pos ((Qt.dvb_iff d1 h.hz (by omega)).2 hd), ih _ (h.step d1 d2 hd)]
    · rw [if_neg hc]
      obtain ⟨s1, s2, s3, s4, s5⟩ := h.gcd hc
      rw [sum_single (s := gcdQ x (Qt.num p)) (ofNormC_nodup _) s4 (fun d hm hne => by
        obtain ⟨d1, d2, d3⟩ := mem_of p2 hm
        rw [if_neg (fun hb => hne (s5 d hm ((Qt.dvb_iff d1 h.hz (by omega)).1 hb)))])]
      rw [if_pos ((Qt.dvb_iff s1 h.hz (by omega)).2 s3), ih _ (h.step s1 s2 s3)]
/-- Of a primitive quaternion. -/
theorem cnt_prim : ∀ (l : List Int) (x : Qt), Cnt l x → Qt.Prim x → cntQ l x = 24 ^ (l.length - 1)
  | [], _, _, _ => rfl
  | [_], _, _, _ => rfl
  | p :: q :: l, x, h, hx => by
    obtain ⟨p2, hp⟩ := h.prm
    have hc : ¬ x.ctn % p = 0 := by
      rw [(Qt.prim_ctn h.hz h.nz).2 hx, Int.emod_eq_of_lt (by omega) (by omega)]
      omega
    obtain ⟨s1, s2, s3, s4, s5⟩ := h.gcd hc
    have hP : Qt.Prim (Qt.lq (gcdQ x (Qt.num p)) x) := by
      obtain ⟨t1, t2⟩ := Qt.lq_dl s1 (by omega) s3
      intro k hk hq
      obtain ⟨y, hy, e⟩ := hq
      refine hx k hk ⟨Qt.hm (gcdQ x (Qt.num p)) y, Qt.hz_hm s1 hy, ?_⟩
      have e2 : Qt.hm (gcdQ x (Qt.num p)) (Qt.lq (gcdQ x (Qt.num p)) x) = Qt.hm (gcdQ x (Qt.num p)) (Qt.smul k y) := by rw [← e]
      rw [← Qt.hm_smul k s1 hy, ← e2]; exact t2
    rw [cntQ, if_neg hc, cnt_prim (q :: l) _ (h.step s1 s2 s3) hP]
    simp only [List.length_cons, Nat.add_sub_cancel]
    rw [Int.pow_succ, Int.mul_comm]
/-- How large counts are. -/
theorem sum_le {L : List Qt} {f : Qt → Int} {B : Int} (h : ∀ d ∈ L, 0 ≤ f d ∧ f d ≤ B) : 0 ≤ (L.map f).sum ∧ (L.map f).sum ≤ (L.length : Int) * B := by
  induction L with
  | nil => simp
  | cons a L ih =>
    have h1 := h a (List.mem_cons_self ..)
    have h2 := ih (fun d hd => h d (List.mem_cons_of_mem _ hd))
    rw [List.map_cons, List.sum_cons, List.length_cons]
    have e : ((L.length + 1 : Nat) : Int) * B = (L.length : Int) * B + B := by rw [Int.natCast_add, Int.add_mul]; simp
    rw [e]; omega
theorem lens7 : (List.range 8).all (fun p => decide ((ofNormE p).length ≤ 8)) = true := by decide +kernel
theorem len7 {p : Nat} (h : p ≤ 7) : (ofNormC p).length ≤ 8 := by
  have := List.all_eq_true.1 lens7 p (List.mem_range.2 (by omega))
  rw [ofNormE_eq]
  simpa using this
theorem pow_pos' (n : Nat) : (1 : Int) ≤ 192 ^ n := by
  induction n with
  | zero => decide
  | succ n ih => rw [Int.pow_succ]; omega
theorem cnt_bd : ∀ (l : List Int) (x : Qt), Cnt l x → (∀ p ∈ l, p ≤ 7) → 0 ≤ cntQ l x ∧ cntQ l x ≤ 192 ^ (l.length - 1)
  | [], _, _, _ => ⟨(by decide : (0 : Int) ≤ 1), (by decide : (1 : Int) ≤ 192 ^ 0)⟩
  | [_], _, _, _ => ⟨(by decide : (0 : Int) ≤ 1), (by decide : (1 : Int) ≤ 192 ^ 0)⟩
  | p :: q :: l, x, h, h7 => by
    obtain ⟨p2, hp⟩ := h.prm
    have p7 := h7 p (List.mem_cons_self ..)
    have ih : ∀ d, Qt.Hz d → d.nrm = 4 * ((p.toNat : Nat) : Int) → Qt.Dl d x → 0 ≤ 24 * cntQ (q :: l) (Qt.lq d x) ∧ 24 * cntQ (q :: l) (Qt.lq d x) ≤ 24 * 192 ^ l.length := fun d d1 d2 hd => by
      have := cnt_bd (q :: l) _ (h.step d1 d2 hd) (fun r hr => h7 r (List.mem_cons_of_mem _ hr))
      simp only [List.length_cons, Nat.add_sub_cancel] at this
      omega
    have hpow : (192 : Int) ^ (l.length + 1) = 192 * 192 ^ l.length := by rw [Int.pow_succ, Int.mul_comm]
    have pos := pow_pos' l.length
    simp only [List.length_cons, Nat.add_sub_cancel]
    rw [cntQ, hpow]
    generalize (192 : Int) ^ l.length = W at *
    by_cases hc : x.ctn % p = 0
    · rw [if_pos hc]
      have hs := sum_le (L := ofNormC p.toNat) (f := fun d => 24 * cntQ (q :: l) (Qt.lq d x)) (B := 24 * W) (fun d hm => by
        obtain ⟨d1, d2, d3⟩ := mem_of p2 hm
        exact ih d d1 d2 (h.all hc d hm))
      have hL := len7 (p := p.toNat) (by omega)
      have := Int.mul_le_mul_of_nonneg_right (show ((ofNormC p.toNat).length : Int) ≤ 8 by omega) (show 0 ≤ 24 * W by omega)
      omega
    · rw [if_neg hc]
      obtain ⟨s1, s2, s3, s4, s5⟩ := h.gcd hc
      have := ih _ s1 s2 s3
      omega
end Go.Proofs.Ythajaabgcbjfkaa
