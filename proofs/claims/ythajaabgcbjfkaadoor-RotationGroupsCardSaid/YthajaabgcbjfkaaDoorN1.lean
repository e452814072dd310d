/- Plain: lists of quaternions in order; canonical associates; the lists of a norm. Plain: the canonical quaternions of a norm, as the program finds them and as the reference does. Plain: lists of norms, by the kernel. -/
import Derived.Test.YthajaabgcbjfkaaDoorS1
import Derived.Test.YthajaabgcbjfkaaDoorP1
namespace Go.Proofs.YthajaabgcbjfkaaDoor
open Go.RowKit Go.Sort

instance : DecidableEq Qt := fun _ _ => decidable_of_iff _ Qt.eqb_iff

theorem Qt.lt_ne {a b : Qt} (h : a.lt b) : a ≠ b := fun e => Qt.lt_irrefl b (e ▸ h)
theorem sorted_ext {l1 l2 : List Qt} (h1 : l1.Pairwise Qt.lt) (h2 : l2.Pairwise Qt.lt) (h : ∀ x, x ∈ l1 ↔ x ∈ l2) : l1 = l2 := by
  induction l1 generalizing l2 with
  | nil =>
    cases l2 with
    | nil => rfl
    | cons b l2 => exact absurd ((h b).2 (by simp)) (by simp)
  | cons a l1 ih =>
    cases l2 with
    | nil => exact absurd ((h a).1 (by simp)) (by simp)
    | cons b l2 =>
      rw [List.pairwise_cons] at h1 h2
      have hab : a = b := by
        have ha := (h a).1 (by simp)
        have hb := (h b).2 (by simp)
        rcases List.mem_cons.1 ha with e | ha
        · exact e
        rcases List.mem_cons.1 hb with e | hb
        · exact e.symm
        exact absurd (Qt.lt_trans (h1.1 b hb) (h2.1 a ha)) (Qt.lt_irrefl a)
      subst hab
      congr 1
      refine ih h1.2 h2.2 fun x => ?_
      constructor
      · intro hx
        rcases List.mem_cons.1 ((h x).1 (List.mem_cons_of_mem _ hx)) with e | h'
        · exact absurd (h1.1 x hx) (e ▸ Qt.lt_irrefl _)
        · exact h'
      · intro hx
        rcases List.mem_cons.1 ((h x).2 (List.mem_cons_of_mem _ hx)) with e | h'
        · exact absurd (h2.1 x hx) (e ▸ Qt.lt_irrefl _)
        · exact h'
theorem pw_range {k : Nat} {f : Nat → List Qt} {R : Qt → Qt → Prop} (h1 : ∀ i, i < k → (f i).Pairwise R) (h2 : ∀ i j, i < j → j < k → ∀ a ∈ f i, ∀ b ∈ f j, R a b) : ((List.range k).flatMap f).Pairwise R := by
  rw [List.pairwise_flatMap]
  refine ⟨fun i hi => h1 i (List.mem_range.1 hi), ?_⟩
  have h3 : (List.range k).Pairwise (fun i j => i < j ∧ j < k) := by
    have : (List.range k).Pairwise (· < ·) := List.pairwise_lt_range
    exact this.imp_of_mem (fun {a b} _ hb hab => ⟨hab, List.mem_range.1 hb⟩)
  exact h3.imp fun ⟨hij, hj⟩ a ha b hb => h2 _ _ hij hj a ha b hb
theorem sortUp_id {l : List Qt} (h : l.Pairwise Qt.lt) : sortUp l = l := by
  refine List.mergeSort_of_pairwise (h.imp fun {a b} hab => ?_)
  have : ltOf cfUp b a = false := by
    rw [← Bool.not_eq_true, ltUp]; exact fun hba => Qt.lt_irrefl a (Qt.lt_trans hab hba)
  rw [this]; rfl

/-- The units, descending. -/
def unitsE : List Qt := [⟨2, 0, 0, 0⟩, ⟨1, 1, 1, 1⟩, ⟨1, 1, 1, -1⟩, ⟨1, 1, -1, 1⟩, ⟨1, 1, -1, -1⟩, ⟨1, -1, 1, 1⟩, ⟨1, -1, 1, -1⟩, ⟨1, -1, -1, 1⟩, ⟨1, -1, -1, -1⟩, ⟨0, 2, 0, 0⟩, ⟨0, 0, 2, 0⟩, ⟨0, 0, 0, 2⟩, ⟨0, 0, 0, -2⟩, ⟨0, 0, -2, 0⟩, ⟨0, -2, 0, 0⟩, ⟨-1, 1, 1, 1⟩, ⟨-1, 1, 1, -1⟩, ⟨-1, 1, -1, 1⟩, ⟨-1, 1, -1, -1⟩, ⟨-1, -1, 1, 1⟩, ⟨-1, -1, 1, -1⟩, ⟨-1, -1, -1, 1⟩, ⟨-1, -1, -1, -1⟩, ⟨-2, 0, 0, 0⟩]
theorem sorted_ext_dn {l1 l2 : List Qt} (h1 : l1.Pairwise fun a b => b.lt a) (h2 : l2.Pairwise fun a b => b.lt a) (h : ∀ x, x ∈ l1 ↔ x ∈ l2) : l1 = l2 := by
  have := sorted_ext (List.pairwise_reverse.2 h1) (List.pairwise_reverse.2 h2) (fun x => by simp [h])
  exact List.reverse_inj.1 this
theorem Qt.ltb_iff {a b : Qt} : a.ltb b = true ↔ a.lt b := by simp [Qt.ltb, Qt.lt]
instance : DecidableRel Qt.lt := fun _ _ => decidable_of_iff _ Qt.ltb_iff
theorem unitsE_pw : unitsE.Pairwise fun a b => b.lt a := by decide +kernel
theorem unAB_nodup : (unA ++ unB).Nodup := by decide +kernel
theorem unAB_mem : (∀ x ∈ unA ++ unB, x ∈ unitsE) ∧ (∀ x ∈ unitsE, x ∈ unA ++ unB) := by decide +kernel
theorem unitsL_eq : unitsL = unitsE := by
  refine sorted_ext_dn ?_ unitsE_pw fun x => ?_
  · have hp := List.pairwise_mergeSort (le := fun x y => !(ltOf cfDn) y x) (fun a b c h1 h2 => by
      simp only [Bool.not_eq_true', ← Bool.not_eq_true, ltDn] at *
      exact Qt.lt_ntrans h1 h2) (fun a b => by
      by_cases h : a.lt b
      · have : ltOf cfDn a b = false := by rw [← Bool.not_eq_true, ltDn]; exact fun hba => Qt.lt_irrefl a (Qt.lt_trans h hba)
        rw [this]; simp
      · have : ltOf cfDn b a = false := by rw [← Bool.not_eq_true, ltDn]; exact h
        rw [this]; simp) (unA ++ unB)
    have hn : unitsL.Nodup := (List.mergeSort_perm (unA ++ unB) _).nodup_iff.2 unAB_nodup
    have := List.Pairwise.and hp hn
    refine List.Pairwise.imp ?_ this
    rintro a b ⟨h1, h2⟩
    simp only [Bool.not_eq_true', ← Bool.not_eq_true, ltDn] at h1
    apply Decidable.byContradiction
    intro h3
    exact h2 (Qt.lt_tri h1 h3)
  · unfold unitsL sortDn
    rw [List.mem_mergeSort]
    exact ⟨unAB_mem.1 x, unAB_mem.2 x⟩

/-- The greatest of the associates, among those of a list and a first. -/
theorem canFold_spec (x : Qt) (l : List Qt) (b : Qt) :
    (¬ (l.foldl (canStep x) b).lt b) ∧ (∀ u ∈ l, ¬ (l.foldl (canStep x) b).lt (Qt.hm x u)) ∧ (l.foldl (canStep x) b = b ∨ ∃ u ∈ l, l.foldl (canStep x) b = Qt.hm x u) := by
  induction l generalizing b with
  | nil => exact ⟨Qt.lt_irrefl b, by simp, .inl rfl⟩
  | cons u l ih =>
    simp only [List.foldl_cons]
    obtain ⟨h1, h2, h3⟩ := ih (canStep x b u)
    have hs : (canStep x b u = Qt.hm x u ∧ b.lt (Qt.hm x u)) ∨ (canStep x b u = b ∧ ¬ b.lt (Qt.hm x u)) := by
      unfold canStep
      have hc : 0 < ((x.mul u).over 2).cmp b ↔ b.lt (Qt.hm x u) := by
        have h0 := Qt.cmp_neg b (Qt.hm x u)
        have h4 := Qt.cmp_neg (Qt.hm x u) b
        have hneg : (Qt.hm x u).cmp b = - b.cmp (Qt.hm x u) := by
          have ci : ∀ p q : Int, cmpI p q = - cmpI q p := fun p q => by unfold cmpI; split <;> split <;> first | rfl | omega | (split <;> omega)
          have cb : ∀ p q : Int, (cmpI p q != 0) = (cmpI q p != 0) := fun p q => by rw [cmpI_ne, cmpI_ne]; simp only [ne_eq, eq_comm]
          unfold Qt.cmp
          rw [ci (Qt.hm x u).w b.w, ci (Qt.hm x u).x b.x, ci (Qt.hm x u).y b.y, ci (Qt.hm x u).z b.z]
          have nb : ∀ p : Int, (-p != 0) = (p != 0) := fun p => by rw [Bool.eq_iff_iff, bne_iff_ne, bne_iff_ne]; omega
          simp only [nb]
          split <;> (try split) <;> (try split) <;> rfl
        rw [← h0]
        show 0 < (Qt.hm x u).cmp b ↔ _
        rw [hneg]; omega
      by_cases hlt : b.lt (Qt.hm x u)
      · exact .inl ⟨if_pos (hc.2 hlt), hlt⟩
      · exact .inr ⟨if_neg fun h => hlt (hc.1 h), hlt⟩
    rcases hs with ⟨hs, hb⟩ | ⟨hs, hb⟩
    · rw [hs] at h1 h2 h3 ⊢
      refine ⟨fun h => h1 (Qt.lt_trans h hb), fun v hv => ?_, ?_⟩
      · rcases List.mem_cons.1 hv with rfl | hv
        · exact h1
        · exact h2 v hv
      · rcases h3 with h3 | ⟨v, hv, h3⟩
        · exact .inr ⟨u, by simp, h3⟩
        · exact .inr ⟨v, List.mem_cons_of_mem _ hv, h3⟩
    · rw [hs] at h1 h2 h3 ⊢
      refine ⟨h1, fun v hv => ?_, ?_⟩
      · rcases List.mem_cons.1 hv with rfl | hv
        · exact Qt.lt_ntrans h1 hb
        · exact h2 v hv
      · rcases h3 with h3 | ⟨v, hv, h3⟩
        · exact .inl h3
        · exact .inr ⟨v, List.mem_cons_of_mem _ hv, h3⟩
theorem canon_spec (x : Qt) : (¬ (canon x).lt x) ∧ (∀ u ∈ unitsL, ¬ (canon x).lt (Qt.hm x u)) ∧ (canon x = x ∨ ∃ u ∈ unitsL, canon x = Qt.hm x u) := canFold_spec x unitsL x
/-- Of a canonical quaternion the first number is the greatest in size. -/
theorem canon_first {h : Qt} (hc : canon h = h) : (-h.w ≤ h.x ∧ h.x ≤ h.w) ∧ (-h.w ≤ h.y ∧ h.y ≤ h.w) ∧ (-h.w ≤ h.z ∧ h.z ≤ h.w) := by
  obtain ⟨_, h2, _⟩ := canon_spec h
  rw [hc, unitsL_eq] at h2
  have key : ∀ u ∈ unitsE, (Qt.hm h u).w ≤ h.w := fun u hu => by
    have := h2 u hu
    unfold Qt.lt at this
    omega
  have t : ∀ v : Int, (2 * v).tdiv 2 = v := fun v => Int.mul_tdiv_cancel_left _ (by omega)
  have a := key ⟨0, -2, 0, 0⟩ (by decide +kernel)
  have b := key ⟨0, 2, 0, 0⟩ (by decide +kernel)
  have c := key ⟨0, 0, -2, 0⟩ (by decide +kernel)
  have d := key ⟨0, 0, 2, 0⟩ (by decide +kernel)
  have e := key ⟨0, 0, 0, -2⟩ (by decide +kernel)
  have f := key ⟨0, 0, 0, 2⟩ (by decide +kernel)
  simp only [Qt.hm, Qt.mul, Qt.over] at a b c d e f
  rw [show h.w * 0 - h.x * -2 - h.y * 0 - h.z * 0 = 2 * h.x by omega, t] at a
  rw [show h.w * 0 - h.x * 2 - h.y * 0 - h.z * 0 = 2 * -h.x by omega, t] at b
  rw [show h.w * 0 - h.x * 0 - h.y * -2 - h.z * 0 = 2 * h.y by omega, t] at c
  rw [show h.w * 0 - h.x * 0 - h.y * 2 - h.z * 0 = 2 * -h.y by omega, t] at d
  rw [show h.w * 0 - h.x * 0 - h.y * 0 - h.z * -2 = 2 * h.z by omega, t] at e
  rw [show h.w * 0 - h.x * 0 - h.y * 0 - h.z * 2 = 2 * -h.z by omega, t] at f
  omega

/-- The first number from m on that a test lets by (so many tries). -/
def least (p : Nat → Bool) : Nat → Nat → Nat
  | 0, m => m
  | f + 1, m => if p m then m else least p f (m + 1)
theorem least_spec (p : Nat → Bool) (f m : Nat) (h : ∃ k, m ≤ k ∧ k ≤ m + f ∧ p k = true) : p (least p f m) = true ∧ m ≤ least p f m ∧ ∀ j, m ≤ j → j < least p f m → p j = false := by
  induction f generalizing m with
  | zero =>
    obtain ⟨k, h1, h2, h3⟩ := h
    obtain rfl : k = m := by omega
    exact ⟨h3, Nat.le_refl _, fun j h1 h2 => by simp only [least] at h2; omega⟩
  | succ f ih =>
    by_cases hm : p m = true
    · have e : least p (f + 1) m = m := by simp [least, hm]
      rw [e]
      exact ⟨hm, Nat.le_refl _, fun j h1 h2 => by omega⟩
    · have e : least p (f + 1) m = least p f (m + 1) := by simp [least, hm]
      rw [e]
      obtain ⟨k, h1, h2, h3⟩ := h
      have hk : k ≠ m := fun hk => hm (hk ▸ h3)
      obtain ⟨a, b, c⟩ := ih (m + 1) ⟨k, by omega, by omega, h3⟩
      refine ⟨a, by omega, fun j h1 h2 => ?_⟩
      by_cases hj : j = m
      · subst hj; simpa using hm
      · exact c j (by omega) h2
/-- The least m with N < m * m; the least m with N ≤ m * m. -/
def up (N : Nat) : Nat := least (fun m => decide (N < m * m)) (N + 1) 0
def zs (N : Nat) : Nat := least (fun m => decide (N ≤ m * m)) N 0
theorem up_spec (N : Nat) : N < up N * up N ∧ ∀ j, j < up N → j * j ≤ N := by
  obtain ⟨a, _, c⟩ := least_spec (fun m => decide (N < m * m)) (N + 1) 0 ⟨N + 1, by omega, by omega, by simp; have := Nat.mul_le_mul_left (N + 1) (show 1 ≤ N + 1 by omega); omega⟩
  exact ⟨of_decide_eq_true a, fun j hj => by simpa using c j (by omega) hj⟩
theorem zs_spec (N : Nat) : N ≤ zs N * zs N ∧ ∀ j, j < zs N → j * j < N := by
  have hN : N ≤ N * N := by
    rcases Nat.eq_zero_or_pos N with h | h
    · subst h; simp
    · exact Nat.le_mul_of_pos_left _ h
  obtain ⟨a, _, c⟩ := least_spec (fun m => decide (N ≤ m * m)) N 0 ⟨N, by omega, by omega, decide_eq_true hN⟩
  exact ⟨of_decide_eq_true a, fun j hj => by simpa using c j (by omega) hj⟩
theorem up_eq {N k : Nat} (h1 : N < k * k) (h2 : ∀ j, j < k → j * j ≤ N) : k = up N := by
  obtain ⟨a, b⟩ := up_spec N
  rcases Nat.lt_trichotomy k (up N) with h | h | h
  · have := b k h; omega
  · exact h
  · have := h2 _ h; omega
theorem zs_eq {N k : Nat} (h1 : N ≤ k * k) (h2 : ∀ j, j < k → j * j < N) : k = zs N := by
  obtain ⟨a, b⟩ := zs_spec N
  rcases Nat.lt_trichotomy k (zs N) with h | h | h
  · have := b k h; omega
  · exact h
  · have := h2 _ h; omega
end Go.Proofs.YthajaabgcbjfkaaDoor

namespace Go.Proofs.YthajaabgcbjfkaaDoor
open Go.RowKit

def candS (w x y : Int) (z : Nat) : List Qt := if z = 0 then [⟨w, x, y, 0⟩] else [⟨w, x, y, -(z : Int)⟩, ⟨w, x, y, (z : Int)⟩]
def restN (n w x y : Int) : Int := 4 * n - w * w - x * x - y * y
/-- What one (w, x, y) adds. -/
def rowY (n w x y : Int) : List Qt :=
  if restN n w x y < 0 ∨ (w - x) % 2 ≠ 0 ∨ (w - y) % 2 ≠ 0 then [] else
  if (zs (restN n w x y).toNat : Int) * zs (restN n w x y).toNat ≠ restN n w x y ∨ (w - zs (restN n w x y).toNat) % 2 ≠ 0 then [] else
  (candS w x y (zs (restN n w x y).toNat)).filter fun h => decide (canon h = h)
def rowX (n : Int) (w : Nat) (x : Int) (k : Nat) : List Qt := (List.range k).flatMap fun (j : Nat) => rowY n w x (-(w : Int) + j)
def rowW (n : Int) (w k : Nat) : List Qt := (List.range k).flatMap fun (i : Nat) => rowX n w (-(w : Int) + i) (2 * w + 1)
def ofNormK (n k : Nat) : List Qt := (List.range k).flatMap fun (i : Nat) => if (i + 1) * (i + 1) < n then [] else rowW n (i + 1) (2 * (i + 1) + 1)
def ofNormC (n : Nat) : List Qt := ofNormK n (up (4 * n) - 1)

theorem restN_of {h : Qt} {n : Int} (hn : h.nrm = 4 * n) : restN n h.w h.x h.y = h.z * h.z := by unfold restN; unfold Qt.nrm at hn; omega
theorem zs_sq (z : Int) : zs (z * z).toNat = z.natAbs := by
  have e : (z * z).toNat = z.natAbs * z.natAbs := by
    have := Int.natAbs_mul_self (a := z)
    omega
  rw [e]
  exact (zs_eq (Nat.le_refl _) fun j hj => Nat.mul_lt_mul'' hj hj).symm
theorem mem_candS {w x y : Int} {z : Nat} {h : Qt} : h ∈ candS w x y z ↔ h.w = w ∧ h.x = x ∧ h.y = y ∧ h.z.natAbs = z := by
  unfold candS
  obtain ⟨a, b, c, d⟩ := h
  split
  · simp only [List.mem_singleton, Qt.mk.injEq]
    constructor <;> (rintro ⟨rfl, rfl, rfl, h⟩; refine ⟨rfl, rfl, rfl, ?_⟩; omega)
  · simp only [List.mem_cons, List.not_mem_nil, or_false, Qt.mk.injEq]
    constructor
    · rintro (⟨rfl, rfl, rfl, h⟩ | ⟨rfl, rfl, rfl, h⟩) <;> exact ⟨rfl, rfl, rfl, by omega⟩
    · rintro ⟨rfl, rfl, rfl, h⟩
      rcases Int.le_total 0 d with hd | hd
      · exact .inr ⟨rfl, rfl, rfl, by omega⟩
      · exact .inl ⟨rfl, rfl, rfl, by omega⟩
theorem mem_rowY {n w x y : Int} {h : Qt} : h ∈ rowY n w x y ↔ (h.w = w ∧ h.x = x ∧ h.y = y) ∧ Qt.Hz h ∧ h.nrm = 4 * n ∧ canon h = h := by
  unfold rowY
  constructor
  · intro hm
    split at hm
    · simp at hm
    rename_i h1
    split at hm
    · simp at hm
    rename_i h2
    simp only [List.mem_filter, decide_eq_true_eq, mem_candS] at hm
    obtain ⟨⟨rfl, rfl, rfl, hz⟩, hc⟩ := hm
    simp only [not_or, Decidable.not_not] at h1 h2
    have hzz : h.z * h.z = restN n h.w h.x h.y := by
      rw [← h2.1, ← hz]; exact (Int.natAbs_mul_self' _).symm
    refine ⟨⟨rfl, rfl, rfl⟩, ?_, ?_, hc⟩
    · rw [Qt.hz_iff]
      have := h2.2
      rw [← hz] at this
      omega
    · unfold restN at hzz; unfold Qt.nrm; omega
  · rintro ⟨⟨rfl, rfl, rfl⟩, hh, hn, hc⟩
    rw [Qt.hz_iff] at hh
    rw [restN_of hn, zs_sq]
    have h0 := Qt.sq_nonneg h.z
    rw [if_neg (by omega), if_neg (by rw [Int.natAbs_mul_self']; omega)]
    simp only [List.mem_filter, decide_eq_true_eq, mem_candS]
    exact ⟨⟨trivial, trivial, trivial, trivial⟩, hc⟩
theorem rowY_pw (n w x y : Int) : (rowY n w x y).Pairwise Qt.lt := by
  unfold rowY
  split
  · exact List.Pairwise.nil
  split
  · exact List.Pairwise.nil
  refine List.Pairwise.filter _ ?_
  unfold candS
  split
  · exact List.pairwise_singleton _ _
  · rw [List.pairwise_cons]
    refine ⟨fun b hb => ?_, List.pairwise_singleton _ _⟩
    rw [List.mem_singleton.1 hb]
    refine .inr ⟨rfl, .inr ⟨rfl, .inr ⟨rfl, ?_⟩⟩⟩
    show -((zs (restN n w x y).toNat : Nat) : Int) < ((zs (restN n w x y).toNat : Nat) : Int)
    omega
theorem mem_rowX {n : Int} {w : Nat} {x : Int} {k : Nat} {h : Qt} : h ∈ rowX n w x k ↔ (h.w = w ∧ h.x = x ∧ -(w : Int) ≤ h.y ∧ h.y < -(w : Int) + k) ∧ Qt.Hz h ∧ h.nrm = 4 * n ∧ canon h = h := by
  unfold rowX
  simp only [List.mem_flatMap, List.mem_range, mem_rowY]
  constructor
  · rintro ⟨j, hj, ⟨h1, h2, h3⟩, r⟩; exact ⟨⟨h1, h2, by omega, by omega⟩, r⟩
  · rintro ⟨⟨h1, h2, h3, h4⟩, r⟩; exact ⟨(h.y + w).toNat, by omega, ⟨h1, h2, by omega⟩, r⟩
theorem rowX_pw (n : Int) (w : Nat) (x : Int) (k : Nat) : (rowX n w x k).Pairwise Qt.lt := by
  refine pw_range (fun i _ => rowY_pw _ _ _ _) fun i j hij _ a ha b hb => ?_
  obtain ⟨⟨a1, a2, a3⟩, _⟩ := mem_rowY.1 ha
  obtain ⟨⟨b1, b2, b3⟩, _⟩ := mem_rowY.1 hb
  unfold Qt.lt; omega
theorem mem_rowW {n : Int} {w k : Nat} {h : Qt} : h ∈ rowW n w k ↔ (h.w = w ∧ (-(w : Int) ≤ h.x ∧ h.x < -(w : Int) + k) ∧ -(w : Int) ≤ h.y ∧ h.y ≤ w) ∧ Qt.Hz h ∧ h.nrm = 4 * n ∧ canon h = h := by
  unfold rowW
  simp only [List.mem_flatMap, List.mem_range, mem_rowX]
  constructor
  · rintro ⟨j, hj, ⟨h1, h2, h3, h4⟩, r⟩; exact ⟨⟨h1, by omega, by omega, by omega⟩, r⟩
  · rintro ⟨⟨h1, h2, h3, h4⟩, r⟩; exact ⟨(h.x + w).toNat, by omega, ⟨h1, by omega, h3, by omega⟩, r⟩
theorem rowW_pw (n : Int) (w k : Nat) : (rowW n w k).Pairwise Qt.lt := by
  refine pw_range (fun i _ => rowX_pw _ _ _ _) fun i j hij _ a ha b hb => ?_
  obtain ⟨⟨a1, a2, a3⟩, _⟩ := mem_rowX.1 ha
  obtain ⟨⟨b1, b2, b3⟩, _⟩ := mem_rowX.1 hb
  unfold Qt.lt; omega
theorem ofNormK_pw (n k : Nat) : (ofNormK n k).Pairwise Qt.lt := by
  refine pw_range (fun i _ => ?_) fun i j hij _ a ha b hb => ?_
  · split
    · exact List.Pairwise.nil
    · exact rowW_pw _ _ _
  · split at ha
    · simp at ha
    split at hb
    · simp at hb
    obtain ⟨⟨a1, _⟩, _⟩ := mem_rowW.1 ha
    obtain ⟨⟨b1, _⟩, _⟩ := mem_rowW.1 hb
    unfold Qt.lt; omega
theorem up_of_sq {N : Nat} {w : Int} (h0 : 0 ≤ w) (h : w * w ≤ N) : w.toNat + 1 ≤ up N := by
  obtain ⟨a, _⟩ := up_spec N
  apply Nat.not_lt.1
  intro hc
  have h1 : up N * up N ≤ w.toNat * w.toNat := Nat.mul_le_mul (by omega) (by omega)
  have h2 : ((w.toNat * w.toNat : Nat) : Int) = w * w := by rw [Int.natCast_mul]; congr 1 <;> omega
  omega
theorem mem_ofNormC {n : Nat} (hn : 1 ≤ n) {h : Qt} : h ∈ ofNormC n ↔ Qt.Hz h ∧ h.nrm = 4 * (n : Int) ∧ canon h = h := by
  unfold ofNormC ofNormK
  simp only [List.mem_flatMap, List.mem_range]
  constructor
  · rintro ⟨i, hi, hm⟩
    split at hm
    · simp at hm
    · exact (mem_rowW.1 hm).2
  · rintro ⟨hh, hN, hc⟩
    obtain ⟨c1, c2, c3⟩ := canon_first hc
    have q : ∀ v : Int, -h.w ≤ v ∧ v ≤ h.w → v * v ≤ h.w * h.w := fun v hv => by
      have : 0 ≤ (h.w - v) * (h.w + v) := Int.mul_nonneg (by omega) (by omega)
      grind
    have q1 := q _ c1; have q2 := q _ c2; have q3 := q _ c3
    have hN' := hN
    unfold Qt.nrm at hN'
    have hw0 : 0 ≤ h.w := by omega
    have hw1 : 1 ≤ h.w := by
      apply Int.not_lt.1; intro hc0
      have : h.w = 0 := by omega
      rw [this] at q1 q2 q3 hN'
      omega
    have hup := up_of_sq (N := 4 * n) hw0 (by have := Qt.sq_nonneg h.x; have := Qt.sq_nonneg h.y; have := Qt.sq_nonneg h.z; omega)
    have hww : (h.w.toNat - 1 + 1 : Nat) = h.w.toNat := by omega
    refine ⟨h.w.toNat - 1, by omega, ?_⟩
    have hsq : ((h.w.toNat * h.w.toNat : Nat) : Int) = h.w * h.w := by rw [Int.natCast_mul]; congr 1 <;> omega
    rw [hww, if_neg (by omega)]
    exact mem_rowW.2 ⟨⟨by omega, by omega, by omega⟩, hh, hN, hc⟩

/-- All Hurwitz quaternions of a norm, descending: the reference's. -/
def allZ (n b : Nat) (w x y : Int) (k : Nat) : List Qt := (List.range k).flatMap fun (l : Nat) =>
  if w * w + x * x + y * y + ((b : Int) - l) * ((b : Int) - l) = 4 * n ∧ (w - x) % 2 = 0 ∧ (w - y) % 2 = 0 ∧ (w - ((b : Int) - l)) % 2 = 0 then [⟨w, x, y, (b : Int) - l⟩] else []
def allY (n b : Nat) (w x : Int) (k : Nat) : List Qt := (List.range k).flatMap fun (l : Nat) => allZ n b w x ((b : Int) - l) (2 * b + 1)
def allX (n b : Nat) (w : Int) (k : Nat) : List Qt := (List.range k).flatMap fun (l : Nat) => allY n b w ((b : Int) - l) (2 * b + 1)
def allW (n b k : Nat) : List Qt := (List.range k).flatMap fun (l : Nat) => allX n b ((b : Int) - l) (2 * b + 1)
def allH (n : Nat) : List Qt := allW n (up (4 * n) - 1) (2 * (up (4 * n) - 1) + 1)

theorem mem_allZ {n b : Nat} {w x y : Int} {k : Nat} {h : Qt} : h ∈ allZ n b w x y k ↔ (h.w = w ∧ h.x = x ∧ h.y = y ∧ h.z ≤ b ∧ (b : Int) - k < h.z) ∧ Qt.Hz h ∧ h.nrm = 4 * (n : Int) := by
  unfold allZ
  simp only [List.mem_flatMap, List.mem_range]
  constructor
  · rintro ⟨l, hl, hm⟩
    split at hm
    · rename_i hc
      rw [List.mem_singleton.1 hm]
      refine ⟨⟨rfl, rfl, rfl, by simp only; omega, by simp only; omega⟩, ?_, ?_⟩
      · rw [Qt.hz_iff]; simp only; omega
      · simp only [Qt.nrm]; omega
    · simp at hm
  · rintro ⟨⟨rfl, rfl, rfl, h1, h2⟩, hh, hn⟩
    have e : ((b : Int) - ((b : Int) - h.z).toNat) = h.z := by omega
    refine ⟨((b : Int) - h.z).toNat, by omega, ?_⟩
    rw [Qt.hz_iff] at hh
    unfold Qt.nrm at hn
    rw [e, if_pos ⟨by omega, by omega, by omega, by omega⟩]
    exact List.mem_singleton.2 rfl
theorem mem_allY {n b : Nat} {w x : Int} {k : Nat} {h : Qt} : h ∈ allY n b w x k ↔ (h.w = w ∧ h.x = x ∧ (h.y ≤ b ∧ (b : Int) - k < h.y) ∧ (h.z ≤ b ∧ -(b : Int) ≤ h.z)) ∧ Qt.Hz h ∧ h.nrm = 4 * (n : Int) := by
  unfold allY
  simp only [List.mem_flatMap, List.mem_range, mem_allZ]
  constructor
  · rintro ⟨l, hl, ⟨h1, h2, h3, h4⟩, r⟩; exact ⟨⟨h1, h2, by omega, by omega⟩, r⟩
  · rintro ⟨⟨h1, h2, h3, h4⟩, r⟩; exact ⟨((b : Int) - h.y).toNat, by omega, ⟨h1, h2, by omega, by omega, by omega⟩, r⟩
theorem mem_allX {n b : Nat} {w : Int} {k : Nat} {h : Qt} : h ∈ allX n b w k ↔ (h.w = w ∧ (h.x ≤ b ∧ (b : Int) - k < h.x) ∧ (h.y ≤ b ∧ -(b : Int) ≤ h.y) ∧ (h.z ≤ b ∧ -(b : Int) ≤ h.z)) ∧ Qt.Hz h ∧ h.nrm = 4 * (n : Int) := by
  unfold allX
  simp only [List.mem_flatMap, List.mem_range, mem_allY]
  constructor
  · rintro ⟨l, hl, ⟨h1, h2, h3, h4⟩, r⟩; exact ⟨⟨h1, by omega, by omega, by omega⟩, r⟩
  · rintro ⟨⟨h1, h2, h3, h4⟩, r⟩; exact ⟨((b : Int) - h.x).toNat, by omega, ⟨h1, by omega, by omega, by omega⟩, r⟩
theorem mem_allW {n b k : Nat} {h : Qt} : h ∈ allW n b k ↔ ((h.w ≤ b ∧ (b : Int) - k < h.w) ∧ (h.x ≤ b ∧ -(b : Int) ≤ h.x) ∧ (h.y ≤ b ∧ -(b : Int) ≤ h.y) ∧ (h.z ≤ b ∧ -(b : Int) ≤ h.z)) ∧ Qt.Hz h ∧ h.nrm = 4 * (n : Int) := by
  unfold allW
  simp only [List.mem_flatMap, List.mem_range, mem_allX]
  constructor
  · rintro ⟨l, hl, ⟨h1, h2, h3, h4⟩, r⟩; exact ⟨⟨by omega, by omega, by omega, by omega⟩, r⟩
  · rintro ⟨⟨h1, h2, h3, h4⟩, r⟩; exact ⟨((b : Int) - h.w).toNat, by omega, ⟨by omega, by omega, by omega, by omega⟩, r⟩
theorem allZ_pw (n b : Nat) (w x y : Int) (k : Nat) : (allZ n b w x y k).Pairwise fun a c => c.lt a := by
  refine pw_range (fun i _ => ?_) fun i j hij _ a ha c hc => ?_
  · split
    · exact List.pairwise_singleton _ _
    · exact List.Pairwise.nil
  · split at ha
    · split at hc
      · rw [List.mem_singleton.1 ha, List.mem_singleton.1 hc]
        refine .inr ⟨rfl, .inr ⟨rfl, .inr ⟨rfl, ?_⟩⟩⟩
        show (b : Int) - j < (b : Int) - i
        omega
      · simp at hc
    · simp at ha
theorem allY_pw (n b : Nat) (w x : Int) (k : Nat) : (allY n b w x k).Pairwise fun a c => c.lt a := by
  refine pw_range (fun i _ => allZ_pw _ _ _ _ _ _) fun i j hij _ a ha c hc => ?_
  obtain ⟨⟨a1, a2, a3, _⟩, _⟩ := mem_allZ.1 ha
  obtain ⟨⟨c1, c2, c3, _⟩, _⟩ := mem_allZ.1 hc
  unfold Qt.lt; omega
theorem allX_pw (n b : Nat) (w : Int) (k : Nat) : (allX n b w k).Pairwise fun a c => c.lt a := by
  refine pw_range (fun i _ => allY_pw _ _ _ _ _) fun i j hij _ a ha c hc => ?_
  obtain ⟨⟨a1, a2, _⟩, _⟩ := mem_allY.1 ha
  obtain ⟨⟨c1, c2, _⟩, _⟩ := mem_allY.1 hc
  unfold Qt.lt; omega
theorem allW_pw (n b k : Nat) : (allW n b k).Pairwise fun a c => c.lt a := by
  refine pw_range (fun i _ => allX_pw _ _ _ _) fun i j hij _ a ha c hc => ?_
  obtain ⟨⟨a1, _⟩, _⟩ := mem_allX.1 ha
  obtain ⟨⟨c1, _⟩, _⟩ := mem_allX.1 hc
  unfold Qt.lt; omega
theorem mem_allH {n : Nat} {h : Qt} : h ∈ allH n ↔ Qt.Hz h ∧ h.nrm = 4 * (n : Int) := by
  unfold allH
  rw [mem_allW]
  refine ⟨fun h => h.2, fun r => ⟨?_, r⟩⟩
  have hs := Qt.sq_le_nrm h
  rw [r.2] at hs
  have key : ∀ v : Int, v * v ≤ 4 * (n : Int) → v ≤ ((up (4 * n) - 1 : Nat) : Int) ∧ -((up (4 * n) - 1 : Nat) : Int) ≤ v := fun v hv => by
    rcases Int.le_total 0 v with h0 | h0
    · have := up_of_sq (N := 4 * n) h0 (by omega); omega
    · have := up_of_sq (N := 4 * n) (w := -v) (by omega) (by rw [Int.neg_mul_neg]; omega); omega
  have k1 := key _ hs.1; have k2 := key _ hs.2.1; have k3 := key _ hs.2.2.1; have k4 := key _ hs.2.2.2
  omega
theorem allH_one : allH 1 = unitsE := by decide +kernel
/-- The reference's list. -/
def ofNormR (n : Nat) : List Qt := (allH n).reverse.filter fun h => decide (canon h = h)
theorem ofNorm_eq {n : Nat} (hn : 1 ≤ n) : ofNormC n = ofNormR n := by
  refine sorted_ext (ofNormK_pw _ _) ?_ fun x => ?_
  · exact List.Pairwise.filter _ (List.pairwise_reverse.2 (allW_pw _ _ _))
  · unfold ofNormR
    simp only [mem_ofNormC hn, List.mem_filter, List.mem_reverse, mem_allH, decide_eq_true_eq, and_assoc]
theorem ofNormK_snoc (n k : Nat) : ofNormK n (k + 1) = ofNormK n k ++ (if (k + 1) * (k + 1) < n then [] else rowW n (k + 1) (2 * (k + 1) + 1)) := by
  unfold ofNormK; rw [List.range_succ, List.flatMap_append]; simp
theorem rowW_snoc (n : Int) (w k : Nat) : rowW n w (k + 1) = rowW n w k ++ rowX n w (-(w : Int) + k) (2 * w + 1) := by
  unfold rowW; rw [List.range_succ, List.flatMap_append]; simp
theorem rowX_snoc (n : Int) (w : Nat) (x : Int) (k : Nat) : rowX n w x (k + 1) = rowX n w x k ++ rowY n w x (-(w : Int) + k) := by
  unfold rowX; rw [List.range_succ, List.flatMap_append]; simp
theorem length_flat {k B : Nat} {f : Nat → List Qt} (h : ∀ i, i < k → (f i).length ≤ B) : ((List.range k).flatMap f).length ≤ k * B := by
  induction k with
  | zero => simp
  | succ k ih =>
    rw [List.range_succ, List.flatMap_append, List.length_append]
    have := ih fun i hi => h i (by omega)
    have := h k (by omega)
    simp only [List.flatMap_cons, List.flatMap_nil, List.append_nil]
    rw [Nat.add_mul]; omega
theorem rowY_len (n w x y : Int) : (rowY n w x y).length ≤ 2 := by
  unfold rowY
  split
  · simp
  split
  · simp
  refine Nat.le_trans (List.length_filter_le _ _) ?_
  unfold candS; split <;> simp
theorem rowX_len (n : Int) (w : Nat) (x : Int) (k : Nat) : (rowX n w x k).length ≤ k * 2 := length_flat fun _ _ => rowY_len _ _ _ _
theorem rowW_len (n : Int) (w k : Nat) : (rowW n w k).length ≤ k * ((2 * w + 1) * 2) := length_flat fun _ _ => rowX_len _ _ _ _
theorem ofNormK_len (n k : Nat) (hk : k ≤ 44) : (ofNormK n k).length ≤ k * 15842 := by
  refine length_flat fun i hi => ?_
  split
  · simp
  · refine Nat.le_trans (rowW_len _ _ _) ?_
    have h1 : (2 * (i + 1) + 1) * ((2 * (i + 1) + 1) * 2) ≤ 89 * (89 * 2) := Nat.mul_le_mul (by omega) (Nat.mul_le_mul_right 2 (by omega))
    omega
end Go.Proofs.YthajaabgcbjfkaaDoor

namespace Go.Proofs.YthajaabgcbjfkaaDoor
open Go.RowKit

instance : DecidableEq Qd := fun _ _ => decidable_of_iff _ Qd.eqb_iff
def canonE (x : Qt) : Qt := unitsE.foldl (canStep x) x
theorem canonE_eq : canon = canonE := by funext x; unfold canon canonE; rw [unitsL_eq]
def rowYE (n w x y : Int) : List Qt :=
  if restN n w x y < 0 ∨ (w - x) % 2 ≠ 0 ∨ (w - y) % 2 ≠ 0 then [] else
  if (zs (restN n w x y).toNat : Int) * zs (restN n w x y).toNat ≠ restN n w x y ∨ (w - zs (restN n w x y).toNat) % 2 ≠ 0 then [] else
  (candS w x y (zs (restN n w x y).toNat)).filter fun h => decide (canonE h = h)
theorem rowYE_eq : rowY = rowYE := by
  funext n w x y
  unfold rowY rowYE
  rw [canonE_eq]
def ofNormE (n : Nat) : List Qt := (List.range (up (4 * n) - 1)).flatMap fun (i : Nat) => if (i + 1) * (i + 1) < n then [] else
  (List.range (2 * (i + 1) + 1)).flatMap fun (a : Nat) => (List.range (2 * (i + 1) + 1)).flatMap fun (b : Nat) => rowYE n ((i + 1 : Nat) : Int) (-((i + 1 : Nat) : Int) + a) (-((i + 1 : Nat) : Int) + b)
theorem ofNormE_eq (n : Nat) : ofNormC n = ofNormE n := by
  unfold ofNormC ofNormK ofNormE rowW rowX
  rw [rowYE_eq]
theorem ofNorm_two : (ofNormC 2).map Qt.toQ = [⟨1, 1, 0, 0, 1⟩] := by rw [ofNormE_eq]; decide +kernel
end Go.Proofs.YthajaabgcbjfkaaDoor
