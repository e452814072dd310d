/- The law RotationGroups. -/
import Derived.Test.YthajaabgcbjfkaaDoorJ9
namespace Go.Proofs.YthajaabgcbjfkaaDoor
open Go.RowKit Go.BigFrame

theorem OwnS.row {W : World} {base : Nat} {v : Value} {l : List Qd} (h : OwnS W base v l) (hl : 0 < l.length) : ∃ g cap, v = .slice (some ⟨g, 0, none⟩) l.length cap ∧ g < W.heap.size ∧ ∀ k q, l[k]? = some q → Q5 W g k q := by
  obtain ⟨h0, h⟩ := h
  rcases h with ⟨_, hn⟩ | ⟨g, cap, cur, rfl, hb, hg, hle, hm, hsz, htk⟩
  · omega
  · refine ⟨g, cap, rfl, (Array.getElem?_eq_some_iff.1 hg).1, fun k q hq => ?_⟩
    have hk : k < l.length := (List.getElem?_eq_some_iff.1 hq).1
    have key : ∀ j v, j < 5 → (encD q)[j]? = some v → W.cell? ⟨g, k * 5 + j, none⟩ = some v := fun j v hj hv => by
      rw [cell_of_row W g _ cur _ (0, 0) hg]
      have h1 := flatD_get l k q hq j hj
      rw [hv, ← htk, List.getElem?_take_of_lt (by omega), Array.getElem?_toList] at h1
      exact h1
    exact ⟨key 0 _ (by omega) rfl, key 1 _ (by omega) rfl, key 2 _ (by omega) rfl, key 3 _ (by omega) rfl, key 4 _ (by omega) rfl⟩
theorem full_ext {L : List Qt} {m : Nat} {A B : List Qt} (hA : Qt.Full L m A) (hB : Qt.Full L m B) (x : Qt) : x ∈ A ↔ x ∈ B := (hA.mem x).trans (hB.mem x).symm
set_option maxRecDepth 10000 in
theorem law_groups (v : Value) (l : List Qd) (m : Int) (w : World) (hv : ArgQ w v l)
    (k0 : w.cell? ⟨0, 0, none⟩ = some (.int .i64 1)) (k1 : w.cell? ⟨0, 1, none⟩ = some (.int .i64 0)) (k2 : w.cell? ⟨0, 2, none⟩ = some (.int .i64 0)) (k3 : w.cell? ⟨0, 3, none⟩ = some (.int .i64 0)) :
    Calls Tryd.prog 3 #[v, .int .i64 m] w fun e w' => e = .returned (.bool true) ∧ Below w.heap.size w w' := by
  rcases hv with ⟨rfl, rfl⟩ | ⟨a, cap, rfl, hlc, hcm, hz⟩
  · exact gl_nil m w
  by_cases h8 : 8 < l.length
  · exact gl_long (some a) _ cap h8 (by omega) m w
  have h8' : l.length ≤ 8 := by omega
  have own_row : ∀ {W : World} {v : Value}, OwnD W w.heap.size v l → 1 ≤ l.length → ∃ g cap, v = .slice (some ⟨g, 0, none⟩) l.length cap ∧ g < W.heap.size ∧ ∀ k q, l[k]? = some q → Q5 W g k q := fun h h1 => by
    rcases h.form with ⟨_, rfl⟩ | ⟨g, cap, e, _, h2, h3⟩
    · simp at h1
    · exact ⟨g, cap, e, h2, h3⟩
  have hlow : ∀ {W : World}, Below w.heap.size w W → QAt W a l := fun hB => hz.below hB (Nat.le_refl _)
  rcases gk_of l with h | ⟨h, k, E, hk, hg, hb⟩ | ⟨h, hg⟩
  · refine gl_err1 a _ cap h8' l rfl m w hz 2 (by decide) (fun W v ho => ?_) (fun W hB => rgens_len _ _ _ (by unfold inB; rw [decide_eq_false_iff_not]; omega) W)
    obtain ⟨a', cap', rfl⟩ := ho.len
    exact group_err _ m 2 (by decide) W (steps_len _ h (by omega) _ _ W)
  · have hE : E ≠ 0 := (hb _ (List.getElem?_eq_getElem hk)).2
    refine gl_err1 a _ cap h8' l rfl m w hz E hE (fun W v ho => ?_) (fun W hB => ?_)
    · obtain ⟨g, cp, rfl, hgl, hq⟩ := own_row ho h.1
      refine group_err _ m E hE W ((steps_walk l g cp k E h (by omega) hg hb W hgl hq).mono ?_)
      rintro e w' ⟨⟨h1, _⟩ | ⟨_, h2⟩, h3⟩
      · omega
      · exact ⟨h2, h3⟩
    · refine (rgens_walk l a cap k E h (by omega) hg hb W (hlow hB)).mono ?_
      rintro e w' ⟨⟨h1, _⟩ | ⟨_, h2⟩, h3⟩
      · omega
      · exact ⟨h2, h3⟩
  have hgd : ∀ (j : Nat) (q : Qd), j < l.length → l[j]? = some q → gE q = 0 := fun j q _ hq => hg j q hq
  have hvac : ∀ q, l[l.length]? = some q → gE q = 0 ∧ (0 : Int) ≠ 0 := fun q hq => by
    rw [List.getElem?_eq_none (Nat.le_refl _)] at hq; cases hq
  have hok : ∀ q ∈ l, q.serr = 0 ∧ wB 1000 q.num.red = true := fun q hq => by
    obtain ⟨j, hj, e⟩ := List.getElem_of_mem hq
    exact gE_ok (hg j q (by rw [← e]; exact List.getElem?_eq_getElem hj))
  have ge : ∀ W, Below w.heap.size w W → Calls Tryd.prog 6 #[.slice (some a) l.length cap] W fun e w' => e = .returned (.int .i64 0) ∧ Below W.heap.size W w' := fun W hB => by
    refine (rgens_walk l a cap l.length 0 h (Nat.le_refl _) hgd hvac W (hlow hB)).mono ?_
    rintro e w' ⟨⟨_, h2⟩ | ⟨h1, _⟩, h3⟩
    · exact ⟨h2, h3⟩
    · omega
  have st : ∀ W v, OwnD W w.heap.size v l → Calls Tryd.prog 16 #[v] W fun e w' => ∃ gs cp, e = .returned (.tuple #[.slice (some ⟨gs, 0, none⟩) (stps l l.length).length cp, .int .i64 0]) ∧ gs < w'.heap.size ∧ (∀ k q, (stps l l.length)[k]? = some q → Q5 w' gs k q) ∧ Below W.heap.size W w' := fun W v ho => by
    obtain ⟨g, cp, rfl, hgl, hq⟩ := own_row ho h.1
    refine (steps_walk l g cp l.length 0 h (Nat.le_refl _) hgd hvac W hgl hq).mono ?_
    rintro e w' ⟨⟨_, v, rfl, h2⟩ | ⟨h1, _⟩, h3⟩
    · obtain ⟨gs, cs, rfl, h4, h5⟩ := h2.row (by rw [stps_len l _ (Nat.le_refl _)]; omega)
      exact ⟨gs, cs, rfl, h4, h5, h3⟩
    · omega
  by_cases hw : inB m 1 60 = true
  rotate_left
  · refine gl_err2 a _ cap h8' l rfl m w hz (by simpa using hw) (fun W v ho => ?_) ge
    refine group_range _ m (by unfold inB at hw; rw [decide_eq_true_iff] at hw; omega) W ((st W v ho).mono ?_)
    rintro e w' ⟨gs, cp, rfl, _, _, h3⟩
    exact ⟨⟨_, rfl⟩, h3⟩
  have hm : 1 ≤ m ∧ m ≤ 60 := by unfold inB at hw; rwa [decide_eq_true_iff] at hw
  obtain ⟨mm, rfl⟩ : ∃ mm : Nat, m = (mm : Int) := ⟨m.toNat, by omega⟩
  have hmm : 1 ≤ mm ∧ mm ≤ 60 := by omega
  have hN : ∀ s ∈ l.map (fun q => q.num.red), Qt.Nrd s := fun s hs => by
    obtain ⟨q, hq, rfl⟩ := List.mem_map.1 hs
    exact serr_nrd (hok q hq).1
  have hsq : (stps l l.length).map sq = Qt.lets (l.map fun q => q.num.red) := by
    rw [stps_sq l _ (Nat.le_refl _), List.take_length]
  have hB4 : ∀ s ∈ Qt.lets (l.map fun q => q.num.red), s.nrm ≤ 4000000 := fun s hs => by
    rcases Qt.mem_lets.1 hs with h1 | ⟨g, h1, rfl⟩
    · obtain ⟨q, hq, rfl⟩ := List.mem_map.1 h1
      exact bd_nrm3 (wB_iff.1 (hok q hq).2)
    · have h2 := inv_nrm (Qt.nrd_nz (hN g h1))
      obtain ⟨q, hq, rfl⟩ := List.mem_map.1 h1
      have h3 := bd_nrm3 (wB_iff.1 (hok q hq).2)
      omega
  have h0l : (0 : Nat) < w.heap.size := World.block_lt_of_cell? w ⟨0, 0, none⟩ k0
  have pg : ∀ W v, OwnD W w.heap.size v l → Below w.heap.size w W → Calls Tryd.prog 5 #[v, .int .i64 ((mm : Int))] W (GPost W (Qt.lets (l.map fun q => q.num.red)) mm) := fun W v ho hB => by
    rw [← hsq]
    exact group_walk v (stps l l.length) mm (by rw [stps_len l _ (Nat.le_refl _)]; omega) hmm (by rw [hsq]; exact Qt.lets_nrd hN) (by rw [hsq]; exact hB4) W
      ((hB.cell h0l).trans k0) ((hB.cell h0l).trans k1) ((hB.cell h0l).trans k2) ((hB.cell h0l).trans k3) (st W v ho)
  have rg : ∀ W, Below w.heap.size w W → Calls Tryd.prog 8 #[.slice (some a) l.length cap, .int .i64 ((mm : Int))] W (RGPost W (l.map fun q => q.num.red) mm) := fun W hB =>
    rgroup_walk l a cap mm h hmm (fun q hq => (hok q hq).1) (fun q hq => (hok q hq).2) W (hlow hB)
  generalize l.map (fun q => q.num.red) = G at *
  by_cases hF : ∃ A, Qt.Full G mm A
  · obtain ⟨A, hA⟩ := hF
    have hA2 := (Qt.full_iff hN).1 hA
    have hone : Qt.e1q ∈ sortUp A := sortUp_mem.2 ((hA.mem _).2 .one)
    have hpos : 0 < (sortUp A).length := List.length_pos_of_mem hone
    have hlen : (sortUp A).length = A.length := (List.mergeSort_perm _ _).length_eq
    have hnr : ∀ q ∈ sortUp A, Qt.Nrd q := fun q hq => Qt.reach_nrd hN ((hA.mem q).1 (sortUp_mem.1 hq))
    have hir : ∀ q ∈ sortUp A, q.InR := fun q hq => by
      obtain ⟨b0, b1, b2, b3⟩ := hA.bd q (sortUp_mem.1 hq)
      unfold Qt.InR; omega
    refine gl_ok a _ cap h8' l rfl (mm : Int) w hz hw (sortUp A) (by rw [hlen]; have := hA.len; omega) hir (fun q hq => ?_) (fun W v ho hB => ?_) ge (fun W hB => ?_) (fun q hq W => ?_)
    · have h1 := Qt.reach_inv hN ((hA2.mem q).1 (sortUp_mem.1 hq))
      exact sortUp_mem.2 ((hA2.mem _).2 h1)
    · refine (pg W v ho hB).mono ?_
      rintro e w' ⟨⟨A', v', hA', rfl, h1⟩ | ⟨hno, _⟩, h2⟩
      · have he : sortUp A' = sortUp A := sorted_ext (sortUp_pw hA'.nd) (sortUp_pw hA2.nd) fun x => by
          rw [sortUp_mem, sortUp_mem]; exact full_ext hA' hA2 x
        rw [he] at h1
        rcases h1.form with ⟨_, h3⟩ | ⟨g, cp, rfl, _, h3, h4⟩
        · rw [List.map_eq_nil_iff] at h3
          rw [h3] at hpos; simp at hpos
        · refine ⟨⟨g, cp, by rw [List.length_map], h3, fun k q hq => h4 k _ (by rw [List.getElem?_map, hq]; rfl)⟩, h2⟩
      · exact absurd ⟨A, hA2⟩ hno
    · refine (rg W hB).mono ?_
      rintro e w' ⟨⟨A', C, g, cp, hA', hpw, hp, rfl, _, h3, h4⟩ | ⟨hno, _⟩, h2⟩
      · have he : C = sortUp A := sorted_ext hpw (sortUp_pw hA.nd) fun x => by
          rw [sortUp_mem, hp.mem_iff]; exact full_ext hA' hA x
        subst he
        exact ⟨⟨g, cp, rfl, h3, h4⟩, h2⟩
      · exact absurd ⟨A, hA⟩ hno
    · exact rreduced_in q.conj (conj_InR (hir q hq)) (Qt.nz_conj (Qt.nrd_nz (hnr q hq))) W
  · refine gl_err3 a _ cap h8' l rfl (mm : Int) w hz hw (fun W v ho hB => ?_) ge (fun W hB => ?_)
    · refine (pg W v ho hB).mono ?_
      rintro e w' ⟨⟨A', v', hA', _⟩ | ⟨_, h1⟩, h2⟩
      · exact absurd ⟨A', (Qt.full_iff hN).2 hA'⟩ hF
      · exact ⟨h1, h2⟩
    · refine (rg W hB).mono ?_
      rintro e w' ⟨⟨A', C, g, cp, hA', _⟩ | ⟨_, h1⟩, h2⟩
      · exact absurd ⟨A', hA'⟩ hF
      · exact ⟨h1, h2⟩
end Go.Proofs.YthajaabgcbjfkaaDoor
