/- Plain: lists of quaternions in order; canonical associates; the lists of a norm. -/
import Derived.Test.YthajaabgcbjfkaaK3
import Derived.Test.YthajaabgcbjfkaaP1
namespace Go.Proofs.Ythajaabgcbjfkaa
open Go.RowKit Go.Sort

instance : DecidableEq Qt := fun _ _ => decidable_of_iff _ Qt.eqb_iff

theorem Qt.lt_ne {a b : Qt} (h : a.lt b) : a ≠ b := fun e => Qt.lt_irrefl b (e ▸ h)
theorem sorted_ext {l1 l2 : List Qt} (h1 : l1.Pairwise Qt.lt) (h2 : l2.Pairwise Qt.lt) (h : ∀ x, x ∈ l1 ↔ x ∈ l2) : l1 = l2 := by
  induction l1 generalizing l2 with
  | nil =>
    cases l2 with
    | nil => rfl
    | cons b l2 => exact absurd ((h b).2 (by simp)) (by simp)
  | cons a l1 ih =>
    cases l2 with
    | nil => exact absurd ((h a).1 (by simp)) (by simp)
    | cons b l2 =>
      rw [List.pairwise_cons] at h1 h2
      have hab : a = b := by
        have ha := (h a).1 (by simp)
        have hb := (h b).2 (by simp)
        rcases List.mem_cons.1 ha with e | ha
        · exact e
        rcases List.mem_cons.1 hb with e | hb
        · exact e.symm
        exact absurd (Qt.lt_trans (h1.1 b hb) (h2.1 a ha)) (Qt.lt_irrefl a)
      subst hab
      congr 1
      refine ih h1.2 h2.2 fun x => ?_
      constructor
      · intro hx
        rcases List.mem_cons.1 ((h x).1 (List.mem_cons_of_mem _ hx)) with e | h'
        · exact absurd (h1.1 x hx) (e ▸ Qt.lt_irrefl _)
        · exact h'
      · intro hx
        rcases List.mem_cons.1 ((h x).2 (List.mem_cons_of_mem _ hx)) with e | h'
        · exact absurd (h2.1 x hx) (e ▸ Qt.lt_irrefl _)
        · exact h'
theorem pw_range {k : Nat} {f : Nat → List Qt} {R : Qt → Qt → Prop} (h1 : ∀ i, i < k → (f i).Pairwise R) (h2 : ∀ i j, i < j → j < k → ∀ a ∈ f i, ∀ b ∈ f j, R a b) : ((List.range k).flatMap f).Pairwise R := by
  rw [List.pairwise_flatMap]
  refine ⟨fun i hi => h1 i (List.mem_range.1 hi), ?_⟩
  have h3 : (List.range k).Pairwise (fun i j => i < j ∧ j < k) := by
    have : (List.range k).Pairwise (· < ·) := List.pairwise_lt_range
    exact this.imp_of_mem (fun {a b} _ hb hab => ⟨hab, List.mem_range.1 hb⟩)
  exact h3.imp fun ⟨hij, hj⟩ a ha b hb => h2 _ _ hij hj a ha b hb
theorem sortUp_id {l : List Qt} (h : l.Pairwise Qt.lt) : sortUp l = l := by
  refine List.mergeSort_of_pairwise (h.imp fun {a b} hab => ?_)
  have : ltOf cfUp b a = false := by
    rw [← Bool.not_eq_true, ltUp]; exact fun hba => Qt.lt_irrefl a (Qt.lt_trans hab hba)
  rw [this]; rfl

/-- The units, descending. -/
def unitsE : List Qt := [⟨2, 0, 0, 0⟩, ⟨1, 1, 1, 1⟩, ⟨1, 1, 1, -1⟩, ⟨1, 1, -1, 1⟩, ⟨1, 1, -1, -1⟩, ⟨1, -1, 1, 1⟩, ⟨1, -1, 1, -1⟩, ⟨1, -1, -1, 1⟩, ⟨1, -1, -1, -1⟩, ⟨0, 2, 0, 0⟩, ⟨0, 0, 2, 0⟩, ⟨0, 0, 0, 2⟩, ⟨0, 0, 0, -2⟩, ⟨0, 0, -2, 0⟩, ⟨0, -2, 0, 0⟩, ⟨-1, 1, 1, 1⟩, ⟨-1, 1, 1, -1⟩, ⟨-1, 1, -1, 1⟩, ⟨-1, 1, -1, -1⟩, ⟨-1, -1, 1, 1⟩, ⟨-1, -1, 1, -1⟩, ⟨-1, -1, -1, 1⟩, ⟨-1, -1, -1, -1⟩, ⟨-2, 0, 0, 0⟩]
theorem sorted_ext_dn {l1 l2 : List Qt} (h1 : l1.Pairwise fun a b => b.lt a) (h2 : l2.Pairwise fun a b => b.lt a) (h : ∀ x, x ∈ l1 ↔ x ∈ l2) : l1 = l2 := by
  have := sorted_ext (List.pairwise_reverse.2 h1) (List.pairwise_reverse.2 h2) (fun x => by simp [h])
  exact List.reverse_inj.1 this
theorem Qt.ltb_iff {a b : Qt} : a.ltb b = true ↔ a.lt b := by simp [Qt.ltb, Qt.lt]
instance : DecidableRel Qt.lt := fun _ _ => decidable_of_iff _ Qt.ltb_iff
theorem unitsE_pw : unitsE.Pairwise fun a b => b.lt a := by decide +kernel
theorem unAB_nodup : (unA ++ unB).Nodup := by decide +kernel
theorem unAB_mem : (∀ x ∈ unA ++ unB, x ∈ unitsE) ∧ (∀ x ∈ unitsE, x ∈ unA ++ unB) := by decide +kernel
theorem unitsL_eq : unitsL = unitsE := by
  refine sorted_ext_dn ?_ unitsE_pw fun x => ?_
  · have hp := List.pairwise_mergeSort (le := fun x y => !(ltOf cfDn) y x) (fun a b c h1 h2 => by
      simp only [Bool.not_eq_true', ← Bool.not_eq_true, ltDn] at *
      exact Qt.lt_ntrans h1 h2) (fun a b => by
      by_cases h : a.lt b
      · have : ltOf cfDn a b = false := by rw [← Bool.not_eq_true, ltDn]; exact fun hba => Qt.lt_irrefl a (Qt.lt_trans h hba)
        rw [this]; simp
      · have : ltOf cfDn b a = false := by rw [← Bool.not_eq_true, ltDn]; exact h
        rw [this]; simp) (unA ++ unB)
    have hn : unitsL.Nodup := (List.mergeSort_perm (unA ++ unB) _).nodup_iff.2 unAB_nodup
    have := List.Pairwise.and hp hn
    refine List.Pairwise.imp ?_ this
    rintro a b ⟨h1, h2⟩
    simp only [Bool.not_eq_true', ← Bool.not_eq_true, ltDn] at h1
    apply Decidable.byContradiction
    intro h3
    exact h2 (Qt.lt_tri h1 h3)
  · unfold unitsL sortDn
    rw [List.mem_mergeSort]
    exact ⟨unAB_mem.1 x, unAB_mem.2 x⟩

/-- The greatest of the associates, among those of a list and a first. -/
theorem canFold_spec (x : Qt) (l : List Qt) (b : Qt) :
    (¬ (l.foldl (canStep x) b).lt b) ∧ (∀ u ∈ l, ¬ (l.foldl (canStep x) b).lt (Qt.hm x u)) ∧ (l.foldl (canStep x) b = b ∨ ∃ u ∈ l, l.foldl (canStep x) b = Qt.hm x u) := by
  induction l generalizing b with
  | nil => exact ⟨Qt.lt_irrefl b, by simp, .inl rfl⟩
  | cons u l ih =>
    simp only [List.foldl_cons]
    obtain ⟨h1, h2, h3⟩ := ih (canStep x b u)
    have hs : (canStep x b u = Qt.hm x u ∧ b.lt (Qt.hm x u)) ∨ (canStep x b u = b ∧ ¬ b.lt (Qt.hm x u)) := by
      unfold canStep
      have hc : 0 < ((x.mul u).over 2).cmp b ↔ b.lt (Qt.hm x u) := by
        have h0 := Qt.cmp_neg b (Qt.hm x u)
        have h4 := Qt.cmp_neg (Qt.hm x u) b
        have hneg : (Qt.hm x u).cmp b = - b.cmp (Qt.hm x u) := by
          have ci : ∀ p q : Int, cmpI p q = - cmpI q p := fun p q => by unfold cmpI; split <;> split <;> first | rfl | omega | (split <;> omega)
          have cb : ∀ p q : Int, (cmpI p q != 0) = (cmpI q p != 0) := fun p q => by rw [cmpI_ne, cmpI_ne]; simp only [ne_eq, eq_comm]
          unfold Qt.cmp
          rw [ci (Qt.hm x u).w b.w, ci (Qt.hm x u).x b.x, ci (Qt.hm x u).y b.y, ci (Qt.hm x u).z b.z]
          have nb : ∀ p : Int, (-p != 0) = (p != 0) := fun p => by rw [Bool.eq_iff_iff, bne_iff_ne, bne_iff_ne]; omega
          simp only [nb]
          split <;> (try split) <;> (try split) <;> rfl
        rw [← h0]
        show 0 < (Qt.hm x u).cmp b ↔ _
        rw [hneg]; omega
      by_cases hlt : b.lt (Qt.hm x u)
      · exact .inl ⟨if_pos (hc.2 hlt), hlt⟩
      · exact .inr ⟨if_neg fun h => hlt (hc.1 h), hlt⟩
    rcases hs with ⟨hs, hb⟩ | ⟨hs, hb⟩
    · rw [hs] at h1 h2 h3 ⊢
      refine ⟨fun h => h1 (Qt.lt_trans h hb), fun v hv => ?_, ?_⟩
      · rcases List.mem_cons.1 hv with rfl | hv
        · exact h1
        · exact h2 v hv
      · rcases h3 with h3 | ⟨v, hv, h3⟩
        · exact .inr ⟨u, by simp, h3⟩
        · exact .inr ⟨v, List.mem_cons_of_mem _ hv, h3⟩
    · rw [hs] at h1 h2 h3 ⊢
      refine ⟨h1, fun v hv => ?_, ?_⟩
      · rcases List.mem_cons.1 hv with rfl | hv
        · exact Qt.lt_ntrans h1 hb
        · exact h2 v hv
      · rcases h3 with h3 | ⟨v, hv, h3⟩
        · exact .inl h3
        · exact .inr ⟨v, List.mem_cons_of_mem _ hv, h3⟩
theorem canon_spec (x : Qt) : (¬ (canon x).lt x) ∧ (∀ u ∈ unitsL, ¬ (canon x).lt (Qt.hm x u)) ∧ (canon x = x ∨ ∃ u ∈ unitsL, canon x = Qt.hm x u) := canFold_spec x unitsL x
/-- Of a canonical quaternion the first number is the greatest in size. -/
theorem canon_first {h : Qt} (hc : canon h = h) : (-h.w ≤ h.x ∧ h.x ≤ h.w) ∧ (-h.w ≤ h.y ∧ h.y ≤ h.w) ∧ (-h.w ≤ h.z ∧ h.z ≤ h.w) := by
  obtain ⟨_, h2, _⟩ := canon_spec h
  rw [hc, unitsL_eq] at h2
  have key : ∀ u ∈ unitsE, (Qt.hm h u).w ≤ h.w := fun u hu => by
    have := h2 u hu
    unfold Qt.lt at this
    omega
  have t : ∀ v : Int, (2 * v).tdiv 2 = v := fun v => Int.mul_tdiv_cancel_left _ (by omega)
  have a := key ⟨0, -2, 0, 0⟩ (by decide +kernel)
  have b := key ⟨0, 2, 0, 0⟩ (by decide +kernel)
  have c := key ⟨0, 0, -2, 0⟩ (by decide +kernel)
  have d := key ⟨0, 0, 2, 0⟩ (by decide +kernel)
  have e := key ⟨0, 0, 0, -2⟩ (by decide +kernel)
  have f := key ⟨0, 0, 0, 2⟩ (by decide +kernel)
  simp only [Qt.hm, Qt.mul, Qt.over] at a b c d e f
  rw [show h.w * 0 - h.x * -2 - h.y * 0 - h.z * 0 = 2 * h.x by omega, t] at a
  rw [show h.w * 0 - h.x * 2 - h.y * 0 - h.z * 0 = 2 * -h.x by omega, t] at b
  rw [show h.w * 0 - h.x * 0 - h.y * -2 - h.z * 0 = 2 * h.y by omega, t] at c
  rw [show h.w * 0 - h.x * 0 - h.y * 2 - h.z * 0 = 2 * -h.y by omega, t] at d
  rw [show h.w * 0 - h.x * 0 - h.y * 0 - h.z * -2 = 2 * h.z by omega, t] at e
  rw [show h.w * 0 - h.x * 0 - h.y * 0 - h.z * 2 = 2 * -h.z by omega, t] at f
  omega

/-- The first number from m on that a test lets by (so many tries). -/
def least (p : Nat → Bool) : Nat → Nat → Nat
  | 0, m => m
  | f + 1, m => if p m then m else least p f (m + 1)
theorem least_spec (p : Nat → Bool) (f m : Nat) (h : ∃ k, m ≤ k ∧ k ≤ m + f ∧ p k = true) : p (least p f m) = true ∧ m ≤ least p f m ∧ ∀ j, m ≤ j → j < least p f m → p j = false := by
  induction f generalizing m with
  | zero =>
    obtain ⟨k, h1, h2, h3⟩ := h
    obtain rfl : k = m := by omega
    exact ⟨h3, Nat.le_refl _, fun j h1 h2 => by simp only [least] at h2; omega⟩
  | succ f ih =>
    by_cases hm : p m = true
    · have e : least p (f + 1) m = m := by simp [least, hm]
      rw [e]
      exact ⟨hm, Nat.le_refl _, fun j h1 h2 => by omega⟩
    · have e : least p (f + 1) m = least p f (m + 1) := by simp [least, hm]
      rw [e]
      obtain ⟨k, h1, h2, h3⟩ := h
      have hk : k ≠ m := fun hk => hm (hk ▸ h3)
      obtain ⟨a, b, c⟩ := ih (m + 1) ⟨k, by omega, by omega, h3⟩
      refine ⟨a, by omega, fun j h1 h2 => ?_⟩
      by_cases hj : j = m
      · subst hj; simpa using hm
      · exact c j (by omega) h2
/-- The least m with N < m * m; the least m with N ≤ m * m. -/
def up (N : Nat) : Nat := least (fun m => decide (N < m * m)) (N + 1) 0
def zs (N : Nat) : Nat := least (fun m => decide (N ≤ m * m)) N 0
theorem up_spec (N : Nat) : N < up N * up N ∧ ∀ j, j < up N → j * j ≤ N := by
  obtain ⟨a, _, c⟩ := least_spec (fun m => decide (N < m * m)) (N + 1) 0 ⟨N + 1, by omega, by omega, by simp; have := Nat.mul_le_mul_left (N + 1) (show 1 ≤ N + 1 by omega); omega⟩
  exact ⟨of_decide_eq_true a, fun j hj => by simpa using c j (by omega) hj⟩
theorem zs_spec (N : Nat) : N ≤ zs N * zs N ∧ ∀ j, j < zs N → j * j < N := by
  have hN : N ≤ N * N := by
    rcases Nat.eq_zero_or_pos N with h | h
    · subst h; simp
    · exact Nat.le_mul_of_pos_left _ h
  obtain ⟨a, _, c⟩ := least_spec (fun m => decide (N ≤ m * m)) N 0 ⟨N, by omega, by omega, decide_eq_true hN⟩
  exact ⟨of_decide_eq_true a, fun j hj => by simpa using c j (by omega) hj⟩
theorem up_eq {N k : Nat} (h1 : N < k * k) (h2 : ∀ j, j < k → j * j ≤ N) : k = up N := by
  obtain ⟨a, b⟩ := up_spec N
  rcases Nat.lt_trichotomy k (up N) with h | h | h
  · have := b k h; omega
  · exact h
  · have := h2 _ h; omega
theorem zs_eq {N k : Nat} (h1 : N ≤ k * k) (h2 : ∀ j, j < k → j * j < N) : k = zs N := by
  obtain ⟨a, b⟩ := zs_spec N
  rcases Nat.lt_trichotomy k (zs N) with h | h | h
  · have := b k h; omega
  · exact h
  · have := h2 _ h; omega
end Go.Proofs.Ythajaabgcbjfkaa
