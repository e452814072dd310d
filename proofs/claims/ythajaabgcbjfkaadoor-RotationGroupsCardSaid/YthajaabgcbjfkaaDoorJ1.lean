/- Plain: reduced quaternions under multiplication; what generators give. -/
import Derived.Test.YthajaabgcbjfkaaDoorM1
import Derived.Test.YthajaabgcbjfkaaDoorN1
namespace Go.Proofs.YthajaabgcbjfkaaDoor
open Go.RowKit

namespace Qt
/-- Not 0. -/
def Nz (a : Qt) : Prop := a.eqb ⟨0, 0, 0, 0⟩ = false
theorem nz_iff {a : Qt} : Nz a ↔ 1 ≤ a.nrm := by
  constructor
  · exact fun h => nrm_pos_of h
  · intro h
    unfold Nz
    rw [← Bool.not_eq_true]; intro hc
    rw [eqb_iff.1 hc] at h
    exact absurd h (by decide)
/-- In lowest terms, the first coordinate other than 0 positive. -/
structure Nrd (r : Qt) : Prop where
  g : g4 r.w r.x r.y r.z = 1
  s : r.negb = false
theorem nrm_smul2 (c : Int) (a : Qt) : (smul c a).nrm = c * c * a.nrm := by
  simp only [nrm, smul]; grind
theorem g4_mul (c a b d e : Int) : g4 (c * a) (c * b) (c * d) (c * e) = (c.natAbs : Int) * g4 a b d e := by
  unfold g4 gcdL
  simp only [List.foldl_cons, List.foldl_nil, Int.natAbs_mul, Nat.gcd_mul_left, Nat.gcd_zero_left]
  simp
theorem g4_neg (a : Qt) : g4 a.neg.w a.neg.x a.neg.y a.neg.z = g4 a.w a.x a.y a.z := by
  unfold g4 gcdL neg
  simp only [List.foldl_cons, List.foldl_nil, Int.natAbs_neg]
theorem nrd_nz {r : Qt} (h : Nrd r) : Nz r := by
  unfold Nz
  rw [← Bool.not_eq_true]; intro hc
  have := h.g
  rw [eqb_iff.1 hc] at this
  exact absurd this (by decide)
theorem negb_neg {a : Qt} (h : Nz a) : a.neg.negb = !a.negb := by
  have h2 : ¬ (a.w = 0 ∧ a.x = 0 ∧ a.y = 0 ∧ a.z = 0) := fun ⟨h1, h2, h3, h4⟩ => by
    unfold Nz eqb at h
    rw [decide_eq_false_iff_not] at h
    exact h ⟨h1, h2, h3, h4⟩
  unfold negb neg
  simp only
  rw [Bool.eq_iff_iff]
  simp only [Bool.or_eq_true, Bool.and_eq_true, decide_eq_true_eq, Bool.not_eq_true', Bool.or_eq_false_iff, Bool.and_eq_false_iff, decide_eq_false_iff_not]
  omega
theorem over_prim {a : Qt} (h : Nz a) : g4 (a.over (g4 a.w a.x a.y a.z)).w (a.over (g4 a.w a.x a.y a.z)).x (a.over (g4 a.w a.x a.y a.z)).y (a.over (g4 a.w a.x a.y a.z)).z = 1 := by
  have hg := g4_pos h
  obtain ⟨e0, e1, e2, e3⟩ := over_g4 a
  have k := g4_mul (g4 a.w a.x a.y a.z) (a.over (g4 a.w a.x a.y a.z)).w (a.over (g4 a.w a.x a.y a.z)).x (a.over (g4 a.w a.x a.y a.z)).y (a.over (g4 a.w a.x a.y a.z)).z
  rw [← e0, ← e1, ← e2, ← e3] at k
  generalize g4 (a.over (g4 a.w a.x a.y a.z)).w (a.over (g4 a.w a.x a.y a.z)).x (a.over (g4 a.w a.x a.y a.z)).y (a.over (g4 a.w a.x a.y a.z)).z = t at *
  generalize g4 a.w a.x a.y a.z = g at *
  have e : ((g.natAbs : Nat) : Int) = g := by omega
  rw [e] at k
  have k2 : g * t = g * 1 := by omega
  exact Int.eq_of_mul_eq_mul_left (by omega) k2
theorem red_nrd {a : Qt} (h : Nz a) : Nrd a.red := by
  have hp := over_prim h
  unfold red
  split
  · rename_i hn
    refine ⟨by rw [g4_neg]; exact hp, ?_⟩
    rw [negb_neg, hn]; rfl
    unfold Nz
    rw [← Bool.not_eq_true]; intro hc
    rw [eqb_iff.1 hc] at hp
    exact absurd hp (by decide)
  · rename_i hn
    exact ⟨hp, by simpa using hn⟩
theorem smul_one' (a : Qt) : smul 1 a = a := by apply ext' <;> simp [smul]
theorem smul_neg_one (a : Qt) : smul (-1) a = a.neg := by apply ext' <;> simp [smul, neg]
theorem smul_inj {c : Int} (hc : c ≠ 0) {a b : Qt} (h : smul c a = smul c b) : a = b := by
  unfold smul at h
  injection h with h1 h2 h3 h4
  exact ext' (Int.eq_of_mul_eq_mul_left hc h1) (Int.eq_of_mul_eq_mul_left hc h2) (Int.eq_of_mul_eq_mul_left hc h3) (Int.eq_of_mul_eq_mul_left hc h4)
theorem smul_sm (a b : Int) (y : Qt) : smul a (smul b y) = smul (a * b) y := by
  apply ext' <;> simp only [smul, Int.mul_assoc]
theorem nrd_eq {c d : Int} (hc : c ≠ 0) (hd : d ≠ 0) {r s : Qt} (hr : Nrd r) (hs : Nrd s) (h : smul c r = smul d s) : r = s := by
  have e1 := g4_mul c r.w r.x r.y r.z
  have e2 := g4_mul d s.w s.x s.y s.z
  rw [hr.g] at e1
  rw [hs.g] at e2
  have e3 : g4 (c * r.w) (c * r.x) (c * r.y) (c * r.z) = g4 (d * s.w) (d * s.x) (d * s.y) (d * s.z) := by
    have h' := h
    unfold smul at h'
    injection h' with h1 h2 h3 h4
    rw [h1, h2, h3, h4]
  have e4 : c = d ∨ c = -d := by omega
  rcases e4 with rfl | rfl
  · exact smul_inj hc h
  · exfalso
    have e5 : smul (-d) r = smul (-d) s.neg := by
      rw [h, ← smul_neg_one, smul_sm]
      congr 1
      omega
    have e6 := smul_inj hc e5
    have := negb_neg (nrd_nz hs)
    rw [← e6, hr.s, hs.s] at this
    exact absurd this (by decide)
theorem nz_smul {c : Int} {a : Qt} (hc : c ≠ 0) (h : Nz a) : Nz (smul c a) := by
  rw [nz_iff] at *
  rw [nrm_smul2]
  have h0 : 0 < c * c := by
    rcases Int.lt_or_gt_of_ne hc with h | h
    · exact Int.mul_pos_of_neg_of_neg h h
    · exact Int.mul_pos h h
  have := Int.mul_pos h0 (show 0 < a.nrm by omega)
  omega
theorem nz_of_smul {c : Int} {a : Qt} (h : Nz (smul c a)) : Nz a := by
  rw [nz_iff] at *
  rw [nrm_smul2] at h
  have := a.nrm_nonneg
  apply Int.not_lt.1; intro hc
  have e : a.nrm = 0 := by omega
  rw [e] at h
  simp at h
theorem red_nz {a : Qt} (h : Nz a) : Nz a.red := nrd_nz (red_nrd h)
theorem red_smul {c : Int} {a : Qt} (hc : c ≠ 0) (h : Nz a) : (smul c a).red = a.red := by
  obtain ⟨d, hd, e⟩ := red_spec h
  obtain ⟨d', hd', e'⟩ := red_spec (nz_smul hc h)
  have e2 : smul d' (smul c a).red = smul (c * d) a.red := by
    rw [← e', ← smul_sm, ← e]
  exact nrd_eq hd' (Int.mul_ne_zero hc hd) (red_nrd (nz_smul hc h)) (red_nrd h) e2
theorem red_id {r : Qt} (h : Nrd r) : r.red = r := by
  obtain ⟨d, hd, e⟩ := red_spec (nrd_nz h)
  exact nrd_eq hd (c := d) (d := 1) (by omega) (red_nrd (nrd_nz h)) h (by rw [smul_one']; exact e.symm)
theorem smul_mul (c : Int) (a b : Qt) : (smul c a).mul b = smul c (a.mul b) := by
  apply ext' <;> (simp only [smul, mul]; grind)
theorem mul_smul (c : Int) (a b : Qt) : a.mul (smul c b) = smul c (a.mul b) := by
  apply ext' <;> (simp only [smul, mul]; grind)
theorem nz_mul {a b : Qt} (ha : Nz a) (hb : Nz b) : Nz (a.mul b) := by
  rw [nz_iff] at *
  rw [nrm_mul]
  have := Int.mul_pos (show 0 < a.nrm by omega) (show 0 < b.nrm by omega)
  omega
theorem nz_conj {a : Qt} (ha : Nz a) : Nz a.conj := by
  rw [nz_iff] at *
  rw [nrm_conj]; exact ha
/-- The rotation of a product. -/
def op (a b : Qt) : Qt := (a.mul b).red
theorem op_nrd {a b : Qt} (ha : Nz a) (hb : Nz b) : Nrd (op a b) := red_nrd (nz_mul ha hb)
theorem op_red_l {a b : Qt} (ha : Nz a) (hb : Nz b) : op a.red b = op a b := by
  obtain ⟨c, hc, e⟩ := red_spec ha
  have e2 : a.mul b = smul c (a.red.mul b) := by rw [← smul_mul, ← e]
  unfold op
  rw [e2, red_smul hc (nz_mul (red_nz ha) hb)]
theorem op_red_r {a b : Qt} (ha : Nz a) (hb : Nz b) : op a b.red = op a b := by
  obtain ⟨c, hc, e⟩ := red_spec hb
  have e2 : a.mul b = smul c (a.mul b.red) := by rw [← mul_smul, ← e]
  unfold op
  rw [e2, red_smul hc (nz_mul ha (red_nz hb))]
theorem op_assoc {a b c : Qt} (ha : Nz a) (hb : Nz b) (hc : Nz c) : op (op a b) c = op a (op b c) := by
  have e1 : op (op a b) c = op (a.mul b) c := op_red_l (nz_mul ha hb) hc
  have e2 : op a (op b c) = op a (b.mul c) := op_red_r ha (nz_mul hb hc)
  rw [e1, e2]
  unfold op
  rw [mul_assoc]
/-- No rotation. -/
def e1q : Qt := ⟨1, 0, 0, 0⟩
theorem e1q_nrd : Nrd e1q := ⟨by decide, by decide⟩
theorem mul_e1 (a : Qt) : a.mul e1q = a := by apply ext' <;> simp [mul, e1q]
theorem e1_mul (a : Qt) : e1q.mul a = a := by apply ext' <;> simp [mul, e1q]
theorem op_e1 {a : Qt} (h : Nrd a) : op a e1q = a := by unfold op; rw [mul_e1, red_id h]
theorem e1_op {a : Qt} (h : Nrd a) : op e1q a = a := by unfold op; rw [e1_mul, red_id h]
theorem mul_conj (b : Qt) : b.mul b.conj = smul b.nrm e1q := by
  apply ext' <;> (simp only [mul, conj, smul, nrm, e1q]; grind)
theorem conj_mul' (b : Qt) : b.conj.mul b = smul b.nrm e1q := by
  apply ext' <;> (simp only [mul, conj, smul, nrm, e1q]; grind)
/-- The inverse rotation. -/
def inv (b : Qt) : Qt := b.conj.red
theorem inv_nrd {b : Qt} (h : Nz b) : Nrd (inv b) := red_nrd (nz_conj h)
theorem op_inv {b : Qt} (h : Nz b) : op b (inv b) = e1q := by
  unfold inv
  rw [op_red_r h (nz_conj h)]
  unfold op
  rw [mul_conj, red_smul (by rw [nz_iff] at h; omega) (nrd_nz e1q_nrd), red_id e1q_nrd]
theorem inv_op {b : Qt} (h : Nz b) : op (inv b) b = e1q := by
  unfold inv
  rw [op_red_l (nz_conj h) h]
  unfold op
  rw [conj_mul', red_smul (by rw [nz_iff] at h; omega) (nrd_nz e1q_nrd), red_id e1q_nrd]
theorem inv_inv {b : Qt} (h : Nrd b) : inv (inv b) = b := by
  have hb := nrd_nz h
  have hi := inv_nrd hb
  have e : op (op b (inv b)) (inv (inv b)) = op b (op (inv b) (inv (inv b))) := op_assoc hb (nrd_nz hi) (nrd_nz (inv_nrd (nrd_nz hi)))
  rw [op_inv hb, op_inv (nrd_nz hi), op_e1 h, e1_op (inv_nrd (nrd_nz hi))] at e
  exact e
theorem op_cancel {a b : Qt} (ha : Nrd a) (hb : Nz b) : op (op a b) (inv b) = a := by
  rw [op_assoc (nrd_nz ha) hb (nrd_nz (inv_nrd hb)), op_inv hb, op_e1 ha]
theorem op_inj {a a' b : Qt} (ha : Nrd a) (ha' : Nrd a') (hb : Nz b) (h : op a b = op a' b) : a = a' := by
  rw [← op_cancel ha hb, h, op_cancel ha' hb]
/-- What is reached from no rotation by letters. -/
inductive Reach (L : List Qt) : Qt → Prop
  | one : Reach L e1q
  | step {a s : Qt} : Reach L a → s ∈ L → Reach L (op a s)
theorem reach_nrd {L : List Qt} (hL : ∀ s ∈ L, Nrd s) {a : Qt} (h : Reach L a) : Nrd a := by
  induction h with
  | one => exact e1q_nrd
  | step h1 h2 ih => exact op_nrd (nrd_nz ih) (nrd_nz (hL _ h2))
theorem reach_mono {L M : List Qt} (h : ∀ s ∈ L, s ∈ M) {a : Qt} (k : Reach L a) : Reach M a := by
  induction k with
  | one => exact .one
  | step h1 h2 ih => exact .step ih (h _ h2)
theorem reach_mul {L : List Qt} (hL : ∀ s ∈ L, Nrd s) {a b : Qt} (ha : Reach L a) (hb : Reach L b) : Reach L (op a b) := by
  induction hb with
  | one => rw [op_e1 (reach_nrd hL ha)]; exact ha
  | step h1 h2 ih =>
    rw [← op_assoc (nrd_nz (reach_nrd hL ha)) (nrd_nz (reach_nrd hL h1)) (nrd_nz (hL _ h2))]
    exact .step ih h2
theorem reach_letter {L : List Qt} (hL : ∀ s ∈ L, Nrd s) {s : Qt} (h : s ∈ L) : Reach L s := by
  have := Reach.step (L := L) .one h
  rwa [e1_op (hL s h)] at this
/-- The letters of generators: each, and its inverse. -/
def lets (G : List Qt) : List Qt := G.flatMap fun s => [s, inv s]
theorem mem_lets {G : List Qt} {s : Qt} : s ∈ lets G ↔ s ∈ G ∨ ∃ g ∈ G, s = inv g := by
  unfold lets
  rw [List.mem_flatMap]
  constructor
  · rintro ⟨g, hg, h⟩
    rcases List.mem_cons.1 h with rfl | h
    · exact .inl hg
    · exact .inr ⟨g, hg, List.mem_singleton.1 h⟩
  · rintro (h | ⟨g, hg, rfl⟩)
    · exact ⟨s, h, List.mem_cons_self ..⟩
    · exact ⟨g, hg, List.mem_cons_of_mem _ (List.mem_cons_self ..)⟩
theorem lets_nrd {G : List Qt} (hG : ∀ s ∈ G, Nrd s) : ∀ s ∈ lets G, Nrd s := fun s hs => by
  rcases mem_lets.1 hs with h | ⟨g, hg, rfl⟩
  · exact hG s h
  · exact inv_nrd (nrd_nz (hG g hg))
theorem reach_inv {G : List Qt} (hG : ∀ s ∈ G, Nrd s) {a : Qt} (h : Reach (lets G) a) : Reach (lets G) (inv a) := by
  have hL := lets_nrd hG
  induction h with
  | one =>
    have e : inv e1q = e1q := by decide
    rw [e]; exact .one
  | @step a s h1 h2 ih =>
    have ha := reach_nrd hL h1
    have hs := hL _ h2
    have hi : Reach (lets G) (inv s) := by
      rcases mem_lets.1 h2 with h | ⟨g, hg, rfl⟩
      · exact reach_letter hL (mem_lets.2 (.inr ⟨s, h, rfl⟩))
      · rw [inv_inv (hG g hg)]
        exact reach_letter hL (mem_lets.2 (.inl hg))
    have e : inv (op a s) = op (inv s) (inv a) := by
      have hop := op_nrd (nrd_nz ha) (nrd_nz hs)
      have z1 := inv_nrd (nrd_nz hs)
      have z2 := inv_nrd (nrd_nz ha)
      have e1 : op (op a s) (op (inv s) (inv a)) = e1q := by
        rw [← op_assoc (nrd_nz hop) (nrd_nz z1) (nrd_nz z2), op_cancel ha (nrd_nz hs), op_inv (nrd_nz ha)]
      have e2 : op (inv (op a s)) (op (op a s) (op (inv s) (inv a))) = op (inv s) (inv a) := by
        rw [← op_assoc (nrd_nz (inv_nrd (nrd_nz hop))) (nrd_nz hop) (nrd_nz (op_nrd (nrd_nz z1) (nrd_nz z2))), inv_op (nrd_nz hop), e1_op (op_nrd (nrd_nz z1) (nrd_nz z2))]
      rw [e1, op_e1 (inv_nrd (nrd_nz hop))] at e2
      exact e2
    rw [e]
    exact reach_mul hL hi ih
theorem pig : ∀ (l m : List Qt), l.Nodup → (∀ x ∈ l, x ∈ m) → l.length ≤ m.length
  | [], _, _, _ => Nat.zero_le _
  | a :: l, m, hn, h => by
    obtain ⟨h1, h2⟩ := List.nodup_cons.1 hn
    have ha := h a (List.mem_cons_self ..)
    have := pig l (m.erase a) h2 (fun x hx => by
      have hne : x ≠ a := fun e => h1 (e ▸ hx)
      exact (List.mem_erase_of_ne hne).2 (h x (List.mem_cons_of_mem _ hx)))
    rw [List.length_erase_of_mem ha] at this
    have hp : 0 < m.length := List.length_pos_of_mem ha
    simp only [List.length_cons]
    omega
/-- A finite set that letters keep is kept by their inverses. -/
theorem closed_inv {B : List Qt} (hn : B.Nodup) (hB : ∀ x ∈ B, Nrd x) {s : Qt} (hs : Nrd s) (hc : ∀ x ∈ B, op x s ∈ B) : ∀ x ∈ B, op x (inv s) ∈ B := fun x hx => by
  apply Decidable.byContradiction; intro hno
  have hm : (B.map fun y => op y s).Nodup := by
    unfold List.Nodup
    rw [List.pairwise_map]
    refine List.Pairwise.imp_of_mem ?_ hn
    intro a b ha hb hne e
    exact hne (op_inj (hB a ha) (hB b hb) (nrd_nz hs) e)
  have hx2 : x ∉ B.map fun y => op y s := fun h => by
    obtain ⟨y, hy, e⟩ := List.mem_map.1 h
    have := op_cancel (hB y hy) (nrd_nz hs)
    rw [e] at this
    rw [this] at hno
    exact hno hy
  have := pig (x :: B.map fun y => op y s) B (List.nodup_cons.2 ⟨hx2, hm⟩) (fun z hz => by
    rcases List.mem_cons.1 hz with rfl | hz
    · exact hx
    · obtain ⟨y, hy, rfl⟩ := List.mem_map.1 hz
      exact hc y hy)
  simp only [List.length_cons, List.length_map] at this
  omega
/-- All that letters reach, in a list of at most m, none of them large. -/
structure Full (L : List Qt) (m : Nat) (A : List Qt) : Prop where
  nd : A.Nodup
  len : A.length ≤ m
  mem : ∀ x, x ∈ A ↔ Reach L x
  bd : ∀ x ∈ A, Bd 1000000 x
theorem reach_lets {G : List Qt} (hG : ∀ s ∈ G, Nrd s) {B : List Qt} (hn : B.Nodup) (hB : ∀ x ∈ B, Nrd x) (h1 : e1q ∈ B) (hc : ∀ s ∈ G, ∀ x ∈ B, op x s ∈ B) {x : Qt} (hx : Reach (lets G) x) : x ∈ B := by
  induction hx with
  | one => exact h1
  | step h2 h3 ih =>
    rcases mem_lets.1 h3 with h | ⟨g, hg, rfl⟩
    · exact hc _ h _ ih
    · exact closed_inv hn hB (hG g hg) (hc g hg) _ ih
theorem full_iff {G : List Qt} (hG : ∀ s ∈ G, Nrd s) {m : Nat} {A : List Qt} : Full G m A ↔ Full (lets G) m A := by
  have hsub : ∀ s ∈ G, s ∈ lets G := fun s hs => mem_lets.2 (.inl hs)
  constructor
  · intro h
    refine ⟨h.nd, h.len, fun x => ⟨fun hx => reach_mono hsub ((h.mem x).1 hx), fun hx => ?_⟩, h.bd⟩
    exact reach_lets hG h.nd (fun x hx => reach_nrd hG ((h.mem x).1 hx)) ((h.mem _).2 .one) (fun s hs x hx => (h.mem _).2 (.step ((h.mem x).1 hx) hs)) hx
  · intro h
    refine ⟨h.nd, h.len, fun x => ⟨fun hx => ?_, fun hx => (h.mem x).2 (reach_mono hsub hx)⟩, h.bd⟩
    classical
    have hB := reach_lets hG (B := A.filter fun x => decide (Reach G x)) (h.nd.filter _) (fun x hx => reach_nrd hG (by simpa using (List.mem_filter.1 hx).2))
      (List.mem_filter.2 ⟨(h.mem _).2 .one, by simpa using Reach.one⟩)
      (fun s hs x hx => by
        obtain ⟨h1, h2⟩ := List.mem_filter.1 hx
        have h2 : Reach G x := by simpa using h2
        exact List.mem_filter.2 ⟨(h.mem _).2 (.step ((h.mem x).1 h1) (hsub s hs)), by simpa using Reach.step h2 hs⟩)
      ((h.mem x).1 hx)
    simpa using (List.mem_filter.1 hB).2
end Qt
end Go.Proofs.YthajaabgcbjfkaaDoor
