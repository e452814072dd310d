/- Plain: the canonical quaternions of a norm, as the program finds them and as the reference does. -/
import Derived.Test.YthajaabgcbjfkaaN1
namespace Go.Proofs.Ythajaabgcbjfkaa
open Go.RowKit

def candS (w x y : Int) (z : Nat) : List Qt := if z = 0 then [⟨w, x, y, 0⟩] else [⟨w, x, y, -(z : Int)⟩, ⟨w, x, y, (z : Int)⟩]
def restN (n w x y : Int) : Int := 4 * n - w * w - x * x - y * y
/-- What one (w, x, y) adds. -/
def rowY (n w x y : Int) : List Qt :=
  if restN n w x y < 0 ∨ (w - x) % 2 ≠ 0 ∨ (w - y) % 2 ≠ 0 then [] else
  if (zs (restN n w x y).toNat : Int) * zs (restN n w x y).toNat ≠ restN n w x y ∨ (w - zs (restN n w x y).toNat) % 2 ≠ 0 then [] else
  (candS w x y (zs (restN n w x y).toNat)).filter fun h => decide (canon h = h)
def rowX (n : Int) (w : Nat) (x : Int) (k : Nat) : List Qt := (List.range k).flatMap fun (j : Nat) => rowY n w x (-(w : Int) + j)
def rowW (n : Int) (w k : Nat) : List Qt := (List.range k).flatMap fun (i : Nat) => rowX n w (-(w : Int) + i) (2 * w + 1)
def ofNormK (n k : Nat) : List Qt := (List.range k).flatMap fun (i : Nat) => if (i + 1) * (i + 1) < n then [] else rowW n (i + 1) (2 * (i + 1) + 1)
def ofNormC (n : Nat) : List Qt := ofNormK n (up (4 * n) - 1)

theorem restN_of {h : Qt} {n : Int} (hn : h.nrm = 4 * n) : restN n h.w h.x h.y = h.z * h.z := by unfold restN; unfold Qt.nrm at hn; omega
theorem zs_sq (z : Int) : zs (z * z).toNat = z.natAbs := by
  have e : (z * z).toNat = z.natAbs * z.natAbs := by
    have := Int.natAbs_mul_self (a := z)
    omega
  rw [e]
  exact (zs_eq (Nat.le_refl _) fun j hj => Nat.mul_lt_mul'' hj hj).symm
theorem mem_candS {w x y : Int} {z : Nat} {h : Qt} : h ∈ candS w x y z ↔ h.w = w ∧ h.x = x ∧ h.y = y ∧ h.z.natAbs = z := by
  unfold candS
  obtain ⟨a, b, c, d⟩ := h
  split
  · simp only [List.mem_singleton, Qt.mk.injEq]
    constructor <;> (rintro ⟨rfl, rfl, rfl, h⟩; refine ⟨rfl, rfl, rfl, ?_⟩; omega)
  · simp only [List.mem_cons, List.not_mem_nil, or_false, Qt.mk.injEq]
    constructor
    · rintro (⟨rfl, rfl, rfl, h⟩ | ⟨rfl, rfl, rfl, h⟩) <;> exact ⟨rfl, rfl, rfl, by omega⟩
    · rintro ⟨rfl, rfl, rfl, h⟩
      rcases Int.le_total 0 d with hd | hd
      · exact .inr ⟨rfl, rfl, rfl, by omega⟩
      · exact .inl ⟨rfl, rfl, rfl, by omega⟩
theorem mem_rowY {n w x y : Int} {h : Qt} : h ∈ rowY n w x y ↔ (h.w = w ∧ h.x = x ∧ h.y = y) ∧ Qt.Hz h ∧ h.nrm = 4 * n ∧ canon h = h := by
  unfold rowY
  constructor
  · intro hm
    split at hm
    · simp at hm
    rename_i h1
    split at hm
    · simp at hm
    rename_i h2
    simp only [List.mem_filter, decide_eq_true_eq, mem_candS] at hm
    obtain ⟨⟨rfl, rfl, rfl, hz⟩, hc⟩ := hm
    simp only [not_or, Decidable.not_not] at h1 h2
    have hzz : h.z * h.z = restN n h.w h.x h.y := by
      rw [← h2.1, ← hz]; exact (Int.natAbs_mul_self' _).symm
    refine ⟨⟨rfl, rfl, rfl⟩, ?_, ?_, hc⟩
    · rw [Qt.hz_iff]
      have := h2.2
      rw [← hz] at this
      omega
    · unfold restN at hzz; unfold Qt.nrm; omega
  · rintro ⟨⟨rfl, rfl, rfl⟩, hh, hn, hc⟩
    rw [Qt.hz_iff] at hh
    rw [restN_of hn, zs_sq]
    have h0 := Qt.sq_nonneg h.z
    rw [if_neg (by omega), if_neg (by rw [Int.natAbs_mul_self']; omega)]
    simp only [List.mem_filter, decide_eq_true_eq, mem_candS]
    exact ⟨⟨trivial, trivial, trivial, trivial⟩, hc⟩
theorem rowY_pw (n w x y : Int) : (rowY n w x y).Pairwise Qt.lt := by
  unfold rowY
  split
  · exact List.Pairwise.nil
  split
  · exact List.Pairwise.nil
  refine List.Pairwise.filter _ ?_
  unfold candS
  split
  · exact List.pairwise_singleton _ _
  · rw [List.pairwise_cons]
    refine ⟨fun b hb => ?_, List.pairwise_singleton _ _⟩
    rw [List.mem_singleton.1 hb]
    refine .inr ⟨rfl, .inr ⟨rfl, .inr ⟨rfl, ?_⟩⟩⟩
    show -((zs (restN n w x y).toNat : Nat) : Int) < ((zs (restN n w x y).toNat : Nat) : Int)
    omega
theorem mem_rowX {n : Int} {w : Nat} {x : Int} {k : Nat} {h : Qt} : h ∈ rowX n w x k ↔ (h.w = w ∧ h.x = x ∧ -(w : Int) ≤ h.y ∧ h.y < -(w : Int) + k) ∧ Qt.Hz h ∧ h.nrm = 4 * n ∧ canon h = h := by
  unfold rowX
  simp only [List.mem_flatMap, List.mem_range, mem_rowY]
  constructor
  · rintro ⟨j, hj, ⟨h1, h2, h3⟩, r⟩; exact ⟨⟨h1, h2, by omega, by omega⟩, r⟩
  · rintro ⟨⟨h1, h2, h3, h4⟩, r⟩; exact ⟨(h.y + w).toNat, by omega, ⟨h1, h2, by omega⟩, r⟩
theorem rowX_pw (n : Int) (w : Nat) (x : Int) (k : Nat) : (rowX n w x k).Pairwise Qt.lt := by
  refine pw_range (fun i _ => rowY_pw _ _ _ _) fun i j hij _ a ha b hb => ?_
  obtain ⟨⟨a1, a2, a3⟩, _⟩ := mem_rowY.1 ha
  obtain ⟨⟨b1, b2, b3⟩, _⟩ := mem_rowY.1 hb
  unfold Qt.lt; omega
theorem mem_rowW {n : Int} {w k : Nat} {h : Qt} : h ∈ rowW n w k ↔ (h.w = w ∧ (-(w : Int) ≤ h.x ∧ h.x < -(w : Int) + k) ∧ -(w : Int) ≤ h.y ∧ h.y ≤ w) ∧ Qt.Hz h ∧ h.nrm = 4 * n ∧ canon h = h := by
  unfold rowW
  simp only [List.mem_flatMap, List.mem_range, mem_rowX]
  constructor
  · rintro ⟨j, hj, ⟨h1, h2, h3, h4⟩, r⟩; exact ⟨⟨h1, by omega, by omega, by omega⟩, r⟩
  · rintro ⟨⟨h1, h2, h3, h4⟩, r⟩; exact ⟨(h.x + w).toNat, by omega, ⟨h1, by omega, h3, by omega⟩, r⟩
theorem rowW_pw (n : Int) (w k : Nat) : (rowW n w k).Pairwise Qt.lt := by
  refine pw_range (fun i _ => rowX_pw _ _ _ _) fun i j hij _ a ha b hb => ?_
  obtain ⟨⟨a1, a2, a3⟩, _⟩ := mem_rowX.1 ha
  obtain ⟨⟨b1, b2, b3⟩, _⟩ := mem_rowX.1 hb
  unfold Qt.lt; omega
theorem ofNormK_pw (n k : Nat) : (ofNormK n k).Pairwise Qt.lt := by
  refine pw_range (fun i _ => ?_) fun i j hij _ a ha b hb => ?_
  · split
    · exact List.Pairwise.nil
    · exact rowW_pw _ _ _
  · split at ha
    · simp at ha
    split at hb
    · simp at hb
    obtain ⟨⟨a1, _⟩, _⟩ := mem_rowW.1 ha
    obtain ⟨⟨b1, _⟩, _⟩ := mem_rowW.1 hb
    unfold Qt.lt; omega
theorem up_of_sq {N : Nat} {w : Int} (h0 : 0 ≤ w) (h : w * w ≤ N) : w.toNat + 1 ≤ up N := by
  obtain ⟨a, _⟩ := up_spec N
  apply Nat.not_lt.1
  intro hc
  have h1 : up N * up N ≤ w.toNat * w.toNat := Nat.mul_le_mul (by omega) (by omega)
  have h2 : ((w.toNat * w.toNat : Nat) : Int) = w * w := by rw [Int.natCast_mul]; congr 1 <;> omega
  omega
theorem mem_ofNormC {n : Nat} (hn : 1 ≤ n) {h : Qt} : h ∈ ofNormC n ↔ Qt.Hz h ∧ h.nrm = 4 * (n : Int) ∧ canon h = h := by
  unfold ofNormC ofNormK
  simp only [List.mem_flatMap, List.mem_range]
  constructor
  · rintro ⟨i, hi, hm⟩
    split at hm
    · simp at hm
    · exact (mem_rowW.1 hm).2
  · rintro ⟨hh, hN, hc⟩
    obtain ⟨c1, c2, c3⟩ := canon_first hc
    have q : ∀ v : Int, -h.w ≤ v ∧ v ≤ h.w → v * v ≤ h.w * h.w := fun v hv => by
      have : 0 ≤ (h.w - v) * (h.w + v) := Int.mul_nonneg (by omega) (by omega)
      grind
    have q1 := q _ c1; have q2 := q _ c2; have q3 := q _ c3
    have hN' := hN
    unfold Qt.nrm at hN'
    have hw0 : 0 ≤ h.w := by omega
    have hw1 : 1 ≤ h.w := by
      apply Int.not_lt.1; intro hc0
      have : h.w = 0 := by omega
      rw [this] at q1 q2 q3 hN'
      omega
    have hup := up_of_sq (N := 4 * n) hw0 (by have := Qt.sq_nonneg h.x; have := Qt.sq_nonneg h.y; have := Qt.sq_nonneg h.z; omega)
    have hww : (h.w.toNat - 1 + 1 : Nat) = h.w.toNat := by omega
    refine ⟨h.w.toNat - 1, by omega, ?_⟩
    have hsq : ((h.w.toNat * h.w.toNat : Nat) : Int) = h.w * h.w := by rw [Int.natCast_mul]; congr 1 <;> omega
    rw [hww, if_neg (by omega)]
    exact mem_rowW.2 ⟨⟨by omega, by omega, by omega⟩, hh, hN, hc⟩

/-- All Hurwitz quaternions of a norm, descending: the reference's. -/
def allZ (n b : Nat) (w x y : Int) (k : Nat) : List Qt := (List.range k).flatMap fun (l : Nat) =>
  if w * w + x * x + y * y + ((b : Int) - l) * ((b : Int) - l) = 4 * n ∧ (w - x) % 2 = 0 ∧ (w - y) % 2 = 0 ∧ (w - ((b : Int) - l)) % 2 = 0 then [⟨w, x, y, (b : Int) - l⟩] else []
def allY (n b : Nat) (w x : Int) (k : Nat) : List Qt := (List.range k).flatMap fun (l : Nat) => allZ n b w x ((b : Int) - l) (2 * b + 1)
def allX (n b : Nat) (w : Int) (k : Nat) : List Qt := (List.range k).flatMap fun (l : Nat) => allY n b w ((b : Int) - l) (2 * b + 1)
def allW (n b k : Nat) : List Qt := (List.range k).flatMap fun (l : Nat) => allX n b ((b : Int) - l) (2 * b + 1)
def allH (n : Nat) : List Qt := allW n (up (4 * n) - 1) (2 * (up (4 * n) - 1) + 1)

theorem mem_allZ {n b : Nat} {w x y : Int} {k : Nat} {h : Qt} : h ∈ allZ n b w x y k ↔ (h.w = w ∧ h.x = x ∧ h.y = y ∧ h.z ≤ b ∧ (b : Int) - k < h.z) ∧ Qt.Hz h ∧ h.nrm = 4 * (n : Int) := by
  unfold allZ
  simp only [List.mem_flatMap, List.mem_range]
  constructor
  · rintro ⟨l, hl, hm⟩
    split at hm
    · rename_i hc
      rw [List.mem_singleton.1 hm]
      refine ⟨⟨rfl, rfl, rfl, by simp only; omega, by simp only; omega⟩, ?_, ?_⟩
      · rw [Qt.hz_iff]; simp only; omega
      · simp only [Qt.nrm]; omega
    · simp at hm
  · rintro ⟨⟨rfl, rfl, rfl, h1, h2⟩, hh, hn⟩
    have e : ((b : Int) - ((b : Int) - h.z).toNat) = h.z := by omega
    refine ⟨((b : Int) - h.z).toNat, by omega, ?_⟩
    rw [Qt.hz_iff] at hh
    unfold Qt.nrm at hn
    rw [e, if_pos ⟨by omega, by omega, by omega, by omega⟩]
    exact List.mem_singleton.2 rfl
theorem mem_allY {n b : Nat} {w x : Int} {k : Nat} {h : Qt} : h ∈ allY n b w x k ↔ (h.w = w ∧ h.x = x ∧ (h.y ≤ b ∧ (b : Int) - k < h.y) ∧ (h.z ≤ b ∧ -(b : Int) ≤ h.z)) ∧ Qt.Hz h ∧ h.nrm = 4 * (n : Int) := by
  unfold allY
  simp only [List.mem_flatMap, List.mem_range, mem_allZ]
  constructor
  · rintro ⟨l, hl, ⟨h1, h2, h3, h4⟩, r⟩; exact ⟨⟨h1, h2, by omega, by omega⟩, r⟩
  · rintro ⟨⟨h1, h2, h3, h4⟩, r⟩; exact ⟨((b : Int) - h.y).toNat, by omega, ⟨h1, h2, by omega, by omega, by omega⟩, r⟩
theorem mem_allX {n b : Nat} {w : Int} {k : Nat} {h : Qt} : h ∈ allX n b w k ↔ (h.w = w ∧ (h.x ≤ b ∧ (b : Int) - k < h.x) ∧ (h.y ≤ b ∧ -(b : Int) ≤ h.y) ∧ (h.z ≤ b ∧ -(b : Int) ≤ h.z)) ∧ Qt.Hz h ∧ h.nrm = 4 * (n : Int) := by
  unfold allX
  simp only [List.mem_flatMap, List.mem_range, mem_allY]
  constructor
  · rintro ⟨l, hl, ⟨h1, h2, h3, h4⟩, r⟩; exact ⟨⟨h1, by omega, by omega, by omega⟩, r⟩
  · rintro ⟨⟨h1, h2, h3, h4⟩, r⟩; exact ⟨((b : Int) - h.x).toNat, by omega, ⟨h1, by omega, by omega, by omega⟩, r⟩
theorem mem_allW {n b k : Nat} {h : Qt} : h ∈ allW n b k ↔ ((h.w ≤ b ∧ (b : Int) - k < h.w) ∧ (h.x ≤ b ∧ -(b : Int) ≤ h.x) ∧ (h.y ≤ b ∧ -(b : Int) ≤ h.y) ∧ (h.z ≤ b ∧ -(b : Int) ≤ h.z)) ∧ Qt.Hz h ∧ h.nrm = 4 * (n : Int) := by
  unfold allW
  simp only [List.mem_flatMap, List.mem_range, mem_allX]
  constructor
  · rintro ⟨l, hl, ⟨h1, h2, h3, h4⟩, r⟩; exact ⟨⟨by omega, by omega, by omega, by omega⟩, r⟩
  · rintro ⟨⟨h1, h2, h3, h4⟩, r⟩; exact ⟨((b : Int) - h.w).toNat, by omega, ⟨by omega, by omega, by omega, by omega⟩, r⟩
theorem allZ_pw (n b : Nat) (w x y : Int) (k : Nat) : (allZ n b w x y k).Pairwise fun a c => c.lt a := by
  refine pw_range (fun i _ => ?_) fun i j hij _ a ha c hc => ?_
  · split
    · exact List.pairwise_singleton _ _
    · exact List.Pairwise.nil
  · split at ha
    · split at hc
      · rw [List.mem_singleton.1 ha, List.mem_singleton.1 hc]
        refine .inr ⟨rfl, .inr ⟨rfl, .inr ⟨rfl, ?_⟩⟩⟩
        show (b : Int) - j < (b : Int) - i
        omega
      · simp at hc
    · simp at ha
theorem allY_pw (n b : Nat) (w x : Int) (k : Nat) : (allY n b w x k).Pairwise fun a c => c.lt a := by
  refine pw_range (fun i _ => allZ_pw _ _ _ _ _ _) fun i j hij _ a ha c hc => ?_
  obtain ⟨⟨a1, a2, a3, _⟩, _⟩ := mem_allZ.1 ha
  obtain ⟨⟨c1, c2, c3, _⟩, _⟩ := mem_allZ.1 hc
  unfold Qt.lt; omega
theorem allX_pw (n b : Nat) (w : Int) (k : Nat) : (allX n b w k).Pairwise fun a c => c.lt a := by
  refine pw_range (fun i _ => allY_pw _ _ _ _ _) fun i j hij _ a ha c hc => ?_
  obtain ⟨⟨a1, a2, _⟩, _⟩ := mem_allY.1 ha
  obtain ⟨⟨c1, c2, _⟩, _⟩ := mem_allY.1 hc
  unfold Qt.lt; omega
theorem allW_pw (n b k : Nat) : (allW n b k).Pairwise fun a c => c.lt a := by
  refine pw_range (fun i _ => allX_pw _ _ _ _) fun i j hij _ a ha c hc => ?_
  obtain ⟨⟨a1, _⟩, _⟩ := mem_allX.1 ha
  obtain ⟨⟨c1, _⟩, _⟩ := mem_allX.1 hc
  unfold Qt.lt; omega
theorem mem_allH {n : Nat} {h : Qt} : h ∈ allH n ↔ Qt.Hz h ∧ h.nrm = 4 * (n : Int) := by
  unfold allH
  rw [mem_allW]
  refine ⟨fun h => h.2, fun r => ⟨?_, r⟩⟩
  have hs := Qt.sq_le_nrm h
  rw [r.2] at hs
  have key : ∀ v : Int, v * v ≤ 4 * (n : Int) → v ≤ ((up (4 * n) - 1 : Nat) : Int) ∧ -((up (4 * n) - 1 : Nat) : Int) ≤ v := fun v hv => by
    rcases Int.le_total 0 v with h0 | h0
    · have := up_of_sq (N := 4 * n) h0 (by omega); omega
    · have := up_of_sq (N := 4 * n) (w := -v) (by omega) (by rw [Int.neg_mul_neg]; omega); omega
  have k1 := key _ hs.1; have k2 := key _ hs.2.1; have k3 := key _ hs.2.2.1; have k4 := key _ hs.2.2.2
  omega
theorem allH_one : allH 1 = unitsE := by decide +kernel
/-- The reference's list. -/
def ofNormR (n : Nat) : List Qt := (allH n).reverse.filter fun h => decide (canon h = h)
theorem ofNorm_eq {n : Nat} (hn : 1 ≤ n) : ofNormC n = ofNormR n := by
  refine sorted_ext (ofNormK_pw _ _) ?_ fun x => ?_
  · exact List.Pairwise.filter _ (List.pairwise_reverse.2 (allW_pw _ _ _))
  · unfold ofNormR
    simp only [mem_ofNormC hn, List.mem_filter, List.mem_reverse, mem_allH, decide_eq_true_eq, and_assoc]
theorem ofNormK_snoc (n k : Nat) : ofNormK n (k + 1) = ofNormK n k ++ (if (k + 1) * (k + 1) < n then [] else rowW n (k + 1) (2 * (k + 1) + 1)) := by
  unfold ofNormK; rw [List.range_succ, List.flatMap_append]; simp
theorem rowW_snoc (n : Int) (w k : Nat) : rowW n w (k + 1) = rowW n w k ++ rowX n w (-(w : Int) + k) (2 * w + 1) := by
  unfold rowW; rw [List.range_succ, List.flatMap_append]; simp
theorem rowX_snoc (n : Int) (w : Nat) (x : Int) (k : Nat) : rowX n w x (k + 1) = rowX n w x k ++ rowY n w x (-(w : Int) + k) := by
  unfold rowX; rw [List.range_succ, List.flatMap_append]; simp
theorem length_flat {k B : Nat} {f : Nat → List Qt} (h : ∀ i, i < k → (f i).length ≤ B) : ((List.range k).flatMap f).length ≤ k * B := by
  induction k with
  | zero => simp
  | succ k ih =>
    rw [List.range_succ, List.flatMap_append, List.length_append]
    have := ih fun i hi => h i (by omega)
    have := h k (by omega)
    simp only [List.flatMap_cons, List.flatMap_nil, List.append_nil]
    rw [Nat.add_mul]; omega
theorem rowY_len (n w x y : Int) : (rowY n w x y).length ≤ 2 := by
  unfold rowY
  split
  · simp
  split
  · simp
  refine Nat.le_trans (List.length_filter_le _ _) ?_
  unfold candS; split <;> simp
theorem rowX_len (n : Int) (w : Nat) (x : Int) (k : Nat) : (rowX n w x k).length ≤ k * 2 := length_flat fun _ _ => rowY_len _ _ _ _
theorem rowW_len (n : Int) (w k : Nat) : (rowW n w k).length ≤ k * ((2 * w + 1) * 2) := length_flat fun _ _ => rowX_len _ _ _ _
theorem ofNormK_len (n k : Nat) (hk : k ≤ 44) : (ofNormK n k).length ≤ k * 15842 := by
  refine length_flat fun i hi => ?_
  split
  · simp
  · refine Nat.le_trans (rowW_len _ _ _) ?_
    have h1 : (2 * (i + 1) + 1) * ((2 * (i + 1) + 1) * 2) ≤ 89 * (89 * 2) := Nat.mul_le_mul (by omega) (Nat.mul_le_mul_right 2 (by omega))
    omega
end Go.Proofs.Ythajaabgcbjfkaa
