/- What the counts return. -/
import Derived.Test.YthajaabgcbjfkaaF4
import Derived.Test.YthajaabgcbjfkaaX9
namespace Go.Proofs.Ythajaabgcbjfkaa
open Go.RowKit

theorem lens13 : (List.range 14).all (fun p => !prB p || decide (1 ≤ (ofNormE p).length)) = true := by decide +kernel
theorem len13 {p : Nat} (hp : Prm p) (h : p ≤ 13) : 1 ≤ (ofNormC p).length := by
  have := List.all_eq_true.1 lens13 p (List.mem_range.2 (by omega))
  rw [(prB_eq (by omega)).2 hp] at this
  rw [ofNormE_eq]
  simpa using this
theorem pow4 {n : Nat} (h : n ≤ 4) : (192 : Int) ^ n ≤ 1358954496 := by
  match n, h with
  | 0, _ => decide
  | 1, _ => decide
  | 2, _ => decide
  | 3, _ => decide
  | 4, _ => decide
theorem sumR_take {L : List Qt} (f : Qt → Int) : ∀ k, k ≤ L.length → sumR (fun k => f (L.getD k ⟨0, 0, 0, 0⟩)) k = ((L.take k).map fun d => 24 * f d).sum
  | 0, _ => by simp [sumR]
  | k + 1, h => by
    have hk := List.getElem?_eq_getElem (show k < L.length by omega)
    rw [sumR, sumR_take f k (by omega), take_snocN hk, List.map_append, List.sum_append, List.getD_eq_getElem?_getD, hk]
    simp
theorem sumR_all (L : List Qt) (f : Qt → Int) : sumR (fun k => f (L.getD k ⟨0, 0, 0, 0⟩)) L.length = (L.map fun d => 24 * f d).sum := by
  rw [sumR_take f _ (Nat.le_refl _), List.take_length]
theorem sumB_take {L : List Qt} (c : Qt → Bool) (f : Qt → Int) : ∀ k, k ≤ L.length → sumB (fun k => c (L.getD k ⟨0, 0, 0, 0⟩)) (fun k => f (L.getD k ⟨0, 0, 0, 0⟩)) k = ((L.take k).map fun d => if c d then 24 * f d else 0).sum
  | 0, _ => by simp [sumB]
  | k + 1, h => by
    have hk := List.getElem?_eq_getElem (show k < L.length by omega)
    have hd : L.getD k ⟨0, 0, 0, 0⟩ = L[k] := by rw [List.getD_eq_getElem?_getD, hk]; rfl
    rw [sumB, sumB_take c f k (by omega), take_snocN hk, List.map_append, List.sum_append, hd]
    generalize ((L.take k).map fun d => if c d = true then 24 * f d else 0).sum = S
    by_cases hb : c L[k] = true
    · rw [if_pos hb]; simp [hb]
    · rw [if_neg hb]; simp [hb]
theorem sumB_all (L : List Qt) (c : Qt → Bool) (f : Qt → Int) : sumB (fun k => c (L.getD k ⟨0, 0, 0, 0⟩)) (fun k => f (L.getD k ⟨0, 0, 0, 0⟩)) L.length = (L.map fun d => if c d then 24 * f d else 0).sum := by
  rw [sumB_take c f _ (Nat.le_refl _), List.take_length]
theorem getD_mem {L : List Qt} {k : Nat} (h : k < L.length) : L.getD k ⟨0, 0, 0, 0⟩ ∈ L := by
  rw [List.getD_eq_getElem?_getD, List.getElem?_eq_getElem h]; exact List.getElem_mem h
theorem getD_at {L : List Qt} {k : Nat} {d : Qt} (h : L[k]? = some d) : L.getD k ⟨0, 0, 0, 0⟩ = d := by
  rw [List.getD_eq_getElem?_getD, h]; rfl
/-- What is known of a quotient. -/
theorem lq_bd {p : Int} {l : List Int} {x d : Qt} (h : Cnt (p :: l) x) (d1 : Qt.Hz d) (d2 : d.nrm = 4 * ((p.toNat : Nat) : Int)) (hd : Qt.Dl d x) : (Qt.lq d x).nrm ≤ x.nrm ∧ d.nrm ≤ x.nrm ∧ x = Qt.hm d (Qt.lq d x) := by
  obtain ⟨p2, _⟩ := h.prm
  obtain ⟨t1, t2⟩ := Qt.lq_dl d1 (by omega) hd
  have h1 := nrm_hm_ge d1 t1 (by omega)
  have hs := h.step d1 d2 hd
  have h4 : 4 ≤ (Qt.lq d x).nrm := by
    have := prodZ_pos hs.ok
    rw [← hs.nr] at this
    omega
  have h2 := nrm_hm_le d1 t1 h4
  rw [← t2] at h1 h2
  exact ⟨h1, h2, t2⟩
set_option maxRecDepth 10000 in
theorem count_all : ∀ (l : List Int) (x : Qt) (B g o cap : Nat) (w : World), Cnt l x → l ≠ [] → (∀ p ∈ l, p ≤ 7) → l.length ≤ 6 → x.nrm ≤ 4000000 → MapI B w → (∀ (k : Nat) (q : Int), l[k]? = some q → w.cell? ⟨g, o + k, none⟩ = some (.int .i64 q)) → g ≠ B → l.length ≤ cap →
    Calls Try.prog 108 #[.map (some B), .agg #[.int .i64 x.w, .int .i64 x.x, .int .i64 x.y, .int .i64 x.z], .slice (some ⟨g, o, none⟩) l.length cap] w fun e w' => e = .returned (.int .i64 (cntQ l x)) ∧ CM B w w'
  | [], _, _, _, _, _, _, _, h, _, _, _, _, _, _, _ => absurd rfl h
  | [p], x, B, g, o, cap, w, _, _, _, _, _, hm, _, _, _ => count_one x B g o cap w hm
  | p :: q :: l, x, B, g, o, cap, w, h, _, h7, h6, hx, hm, hc, hg, hcap => by
    obtain ⟨p2, hp⟩ := h.prm
    have p7 := h7 p (List.mem_cons_self ..)
    have h0 := hc 0 p rfl
    have hrest : ∀ W, CM B w W → ∀ (k : Nat) (z : Int), (q :: l)[k]? = some z → W.cell? ⟨g, o + 1 + k, none⟩ = some (.int .i64 z) := fun W hW k z hz => by
      have := hc (k + 1) z (by simpa using hz)
      rw [show o + 1 + k = o + (k + 1) by omega]
      exact hW.cell this hg
    have bd : Qt.Bd 4000000 x := Qt.bd_of_nrm (by omega) (by omega)
    have hgq := g4_pos h.nz
    obtain ⟨c1, c2, _, _⟩ := Qt.ctn_spec h.hz h.nz
    have gb := (Qt.gq_le (by omega) bd).2
    have cc := content_in x bd hgq
    simp only [List.length_cons] at h6 hcap
    have hrec : ∀ d, Qt.Hz d → d.nrm = 4 * ((p.toNat : Nat) : Int) → Qt.Dl d x → ∀ W, CM B w W → Calls Try.prog 108 #[.map (some B), .agg #[.int .i64 (Qt.lq d x).w, .int .i64 (Qt.lq d x).x, .int .i64 (Qt.lq d x).y, .int .i64 (Qt.lq d x).z], .slice (some ⟨g, o + 1, none⟩) (l.length + 1) (cap - 1)] W fun e w' => e = .returned (.int .i64 (cntQ (q :: l) (Qt.lq d x))) ∧ CM B W w' := fun d d1 d2 hd W hW =>
      count_all (q :: l) (Qt.lq d x) B g (o + 1) (cap - 1) W (h.step d1 d2 hd) (by simp) (fun r hr => h7 r (List.mem_cons_of_mem _ hr)) (by simp only [List.length_cons]; omega) (Int.le_trans (lq_bd h d1 d2 hd).1 hx) hW.2 (hrest W hW) hg (by simp only [List.length_cons]; omega)
    have hbd : ∀ d, Qt.Hz d → d.nrm = 4 * ((p.toNat : Nat) : Int) → Qt.Dl d x → 0 ≤ cntQ (q :: l) (Qt.lq d x) ∧ cntQ (q :: l) (Qt.lq d x) ≤ 1358954496 := fun d d1 d2 hd => by
      have h1 := cnt_bd (q :: l) _ (h.step d1 d2 hd) (fun r hr => h7 r (List.mem_cons_of_mem _ hr))
      simp only [List.length_cons, Nat.add_sub_cancel] at h1
      have := pow4 (n := l.length) (by omega)
      omega
    have hbef : ∀ d, Qt.Hz d → d.nrm = 4 * ((p.toNat : Nat) : Int) → Qt.Dl d x → ∀ w, Calls Try.prog 107 #[.agg #[.int .i64 x.w, .int .i64 x.x, .int .i64 x.y, .int .i64 x.z], .agg #[.int .i64 d.w, .int .i64 d.x, .int .i64 d.y, .int .i64 d.z]] w fun e w' => e = .returned (.agg #[.int .i64 (Qt.lq d x).w, .int .i64 (Qt.lq d x).x, .int .i64 (Qt.lq d x).y, .int .i64 (Qt.lq d x).z]) ∧ Below w.heap.size w w' := fun d d1 d2 hd w => by
      have hb := (lq_bd h d1 d2 hd).2.1
      exact before_in x d (Qt.inR_of_nrm (by omega)) (by omega) (by omega) (Qt.inR_of_nrm (by
        rw [Qt.nrm_mul, Qt.nrm_conj]
        have := Int.mul_le_mul (Int.le_trans hb hx) hx (Qt.nrm_nonneg _) (by omega)
        omega)) w
    obtain ⟨P, rfl⟩ : ∃ P : Nat, p = P := ⟨p.toNat, by omega⟩
    rw [show (((P : Int) :: q :: l).length) = (l.length + 1) + 1 from rfl, cntQ]
    have hcx : 1 ≤ x.ctn ∧ x.ctn ≤ 4000000 := by omega
    by_cases hcp : x.ctn % (P : Int) = 0
    · rw [if_pos hcp]
      have hall := h.all hcp
      have hL8 := len7 (p := P) (by omega)
      rw [Int.toNat_natCast] at hall hp
      have hL1 := len13 hp (by omega)
      have hmem : ∀ d ∈ ofNormC P, Qt.Hz d ∧ d.nrm = 4 * (((P : Int).toNat : Nat) : Int) ∧ Qt.Dl d x := fun d hd => by
        obtain ⟨d1, d2, d3⟩ := (mem_ofNormC (n := P) (by omega)).1 hd
        exact ⟨d1, by rw [Int.toNat_natCast]; exact d2, hall d hd⟩
      rw [Int.toNat_natCast, ← sumR_all (ofNormC P) (fun d => cntQ (q :: l) (Qt.lq d x))]
      refine count_b x P x.ctn B (l.length + 1) g o cap w (by omega) (by omega) (by omega) hcx hm h0 cc hcp (ofNormC P) rfl hL1 hL8 (fun k => Qt.lq ((ofNormC P).getD k ⟨0, 0, 0, 0⟩) x) _ ?_ (ofNorm_any P (by omega) (by omega)) ?_ ?_
      · intro k hk
        obtain ⟨d1, d2, d3⟩ := hmem _ (getD_mem hk)
        exact hbd _ d1 d2 d3
      · intro k d hd w
        obtain ⟨d1, d2, d3⟩ := hmem d (List.mem_of_getElem? hd)
        have e : (ofNormC P).getD k ⟨0, 0, 0, 0⟩ = d := getD_at hd
        show Calls _ _ _ w fun e w' => e = .returned (.agg #[.int .i64 ((Qt.lq ((ofNormC P).getD k ⟨0, 0, 0, 0⟩) x)).w, .int .i64 ((Qt.lq ((ofNormC P).getD k ⟨0, 0, 0, 0⟩) x)).x, .int .i64 ((Qt.lq ((ofNormC P).getD k ⟨0, 0, 0, 0⟩) x)).y, .int .i64 ((Qt.lq ((ofNormC P).getD k ⟨0, 0, 0, 0⟩) x)).z]) ∧ Below w.heap.size w w'
        rw [e]
        exact hbef d d1 d2 d3 w
      · intro k hk W hW
        obtain ⟨d1, d2, d3⟩ := hmem _ (getD_mem hk)
        exact hrec _ d1 d2 d3 W hW
    · rw [if_neg hcp]
      obtain ⟨s1, s2, s3, s4, s5⟩ := h.gcd hcp
      have hb := hbd _ s1 s2 s3
      refine count_a x P x.ctn B (l.length + 1) g o cap w (by omega) (by omega) (by omega) hcx hm h0 cc hcp _ ⟨hb.1, by omega⟩ (Qt.num P) (gcdQ x (Qt.num P)) (Qt.lq (gcdQ x (Qt.num P)) x) (number_in (P : Int) (by omega) (by omega)) (common_hz x (Qt.num P) h.hz (Qt.hz_nm _) (by omega) ?_) (hbef _ s1 s2 s3) (hrec _ s1 s2 s3)
      rw [show (Qt.num P).nrm = 4 * ((P : Int) * P) from Qt.nrm_num P]
      have := Int.mul_le_mul p7 p7 (by omega) (by omega)
      omega
/-- The reference's count, of any number. -/
theorem rleft_no (d x : Qt) (hd : Qt.Hz d) (hx : Qt.Hz x) (h4 : 4 ≤ d.nrm) (hdb : d.nrm ≤ 28) (hxb : x.nrm ≤ 4000000) (hn : Qt.dvb d x = false) (w : World) :
    Calls Try.prog 32 #[.agg #[.int .i64 x.w, .int .i64 x.x, .int .i64 x.y, .int .i64 x.z], .agg #[.int .i64 d.w, .int .i64 d.x, .int .i64 d.y, .int .i64 d.z]] w fun e w' => e = .returned (.tuple #[.agg #[.int .i64 0, .int .i64 0, .int .i64 0, .int .i64 0], .bool false]) ∧ Below w.heap.size w w' := by
  have hcd := Qt.hz_conj hd
  have hm := Qt.hm_nrm hcd hx
  rw [Qt.nrm_conj] at hm
  have hb := Int.mul_le_mul hdb hxb x.nrm_nonneg (by omega)
  have co := rover_any (Qt.hm d.conj x) (d.nrm / 4) (by omega) (by omega) (Qt.bd_of_nrm (by omega) (by omega))
  have hn' : (Qt.hm d.conj x).ovok (d.nrm / 4) = false := hn
  simp only [hn', Bool.false_eq_true, if_false] at co
  have ct := rtimes_in d.conj x (Qt.inR_of_nrm (by rw [Qt.nrm_mul, Qt.nrm_conj]; omega))
  rw [Qt.hm_eq] at ct
  exact rleft_walk x d ⟨0, 0, 0, 0⟩ d.conj (Qt.hm d.conj x) (d.nrm / 4) (fun w => rconj_in d w (Qt.inR_of_nrm (by omega))) ct (rnorm_in d (by omega)) false co w
set_option maxRecDepth 10000 in
theorem rcount_all : ∀ (l : List Int) (x : Qt) (a : Addr) (cap : Nat) (w : World), Cnt l x → l ≠ [] → (∀ p ∈ l, p ≤ 7) → l.length ≤ 6 → x.nrm ≤ 4000000 → ZAt w a l → l.length ≤ cap →
    Calls Try.prog 63 #[.agg #[.int .i64 x.w, .int .i64 x.x, .int .i64 x.y, .int .i64 x.z], .slice (some a) l.length cap] w fun e w' => e = .returned (.int .i64 (cntR l x)) ∧ Below w.heap.size w w'
  | [], _, _, _, _, _, h, _, _, _, _, _ => absurd rfl h
  | [p], x, a, cap, w, _, _, _, _, _, _, _ => rcount_one x a cap w
  | p :: q :: l, x, a, cap, w, h, _, h7, h6, hx, hz, hcap => by
    obtain ⟨p2, hp⟩ := h.prm
    have p7 := h7 p (List.mem_cons_self ..)
    have h0 : w.cell? a = some (.int .i64 p) := hz 0 p rfl
    have hrest : ∀ W, Below w.heap.size w W → ZAt W ⟨a.block, a.off + 1, none⟩ (q :: l) := fun W hW k z hk => by
      have h1 := (hz.below hW (Nat.le_refl _)) (k + 1) z (by simpa using hk)
      have e : a.add (k + 1) = ⟨a.block, a.off + (k + 1), none⟩ := rfl
      have e2 : (⟨a.block, a.off + 1, none⟩ : Addr).add k = ⟨a.block, a.off + 1 + k, none⟩ := by unfold Addr.add; split <;> simp_all
      rw [e] at h1
      rw [e2, show a.off + 1 + k = a.off + (k + 1) by omega]
      exact h1
    simp only [List.length_cons] at h6 hcap
    have hrec : ∀ d, Qt.Hz d → d.nrm = 4 * ((p.toNat : Nat) : Int) → Qt.Dl d x → ∀ W, Below w.heap.size w W → Calls Try.prog 63 #[.agg #[.int .i64 (Qt.lq d x).w, .int .i64 (Qt.lq d x).x, .int .i64 (Qt.lq d x).y, .int .i64 (Qt.lq d x).z], .slice (some ⟨a.block, a.off + 1, none⟩) (l.length + 1) (cap - 1)] W fun e w' => e = .returned (.int .i64 (cntR (q :: l) (Qt.lq d x))) ∧ Below W.heap.size W w' := fun d d1 d2 hd W hW =>
      rcount_all (q :: l) (Qt.lq d x) ⟨a.block, a.off + 1, none⟩ (cap - 1) W (h.step d1 d2 hd) (by simp) (fun r hr => h7 r (List.mem_cons_of_mem _ hr)) (by simp only [List.length_cons]; omega) (Int.le_trans (lq_bd h d1 d2 hd).1 hx) (hrest W hW) (by simp only [List.length_cons]; omega)
    have hbd : ∀ d, Qt.Hz d → d.nrm = 4 * ((p.toNat : Nat) : Int) → Qt.Dl d x → 0 ≤ cntR (q :: l) (Qt.lq d x) ∧ cntR (q :: l) (Qt.lq d x) ≤ 1358954496 := fun d d1 d2 hd => by
      have hs := h.step d1 d2 hd
      rw [cnt_same _ _ hs]
      have h1 := cnt_bd (q :: l) _ hs (fun r hr => h7 r (List.mem_cons_of_mem _ hr))
      simp only [List.length_cons, Nat.add_sub_cancel] at h1
      have := pow4 (n := l.length) (by omega)
      omega
    obtain ⟨P, rfl⟩ : ∃ P : Nat, p = P := ⟨p.toNat, by omega⟩
    rw [show (((P : Int) :: q :: l).length) = (l.length + 1) + 1 from rfl, cntR]
    have hL8 := len7 (p := P) (by omega)
    rw [Int.toNat_natCast] at hp ⊢
    have hL1 := len13 hp (by omega)
    have hmem : ∀ d ∈ ofNormC P, Qt.Hz d ∧ d.nrm = 4 * (((P : Int).toNat : Nat) : Int) := fun d hd => by
      obtain ⟨d1, d2, d3⟩ := (mem_ofNormC (n := P) (by omega)).1 hd
      exact ⟨d1, by rw [Int.toNat_natCast]; exact d2⟩
    have hne : ofNormC P ≠ [] := fun e => by rw [e] at hL1; simp at hL1
    have hall : allH P ≠ [] := fun e => by
      obtain ⟨y, hy⟩ := List.exists_mem_of_ne_nil _ hne
      obtain ⟨y1, y2, _⟩ := (mem_ofNormC (by omega)).1 hy
      have := mem_allH.2 ⟨y1, y2⟩
      rw [e] at this; simp at this
    have hdl : ∀ d ∈ ofNormC P, Qt.dvb d x = true → Qt.Dl d x := fun d hd hb => by
      obtain ⟨d1, d2⟩ := hmem d hd
      exact (Qt.dvb_iff d1 h.hz (by omega)).1 hb
    have es : ((ofNormC P).map fun d => if Qt.dvb d x then 24 * cntR (q :: l) (Qt.lq d x) else 0) = ((ofNormC P).map fun d => if Qt.dvb d x then 24 * (if Qt.dvb d x then cntR (q :: l) (Qt.lq d x) else 0) else 0) := by
      refine List.map_congr_left fun d _ => ?_
      split <;> rfl
    rw [es, ← sumB_all (ofNormC P) (fun d => Qt.dvb d x) (fun d => if Qt.dvb d x then cntR (q :: l) (Qt.lq d x) else 0)]
    refine rcount_step x P (l.length + 1) cap a w (by omega) (by omega) h0 (ofNormC P) hL1 hL8 _ (fun k => if Qt.dvb ((ofNormC P).getD k ⟨0, 0, 0, 0⟩) x then Qt.lq ((ofNormC P).getD k ⟨0, 0, 0, 0⟩) x else ⟨0, 0, 0, 0⟩) _ ?_ (rofNorm_any P (by omega) (by omega) hall) ?_ ?_
    · intro k hk
      have hm := getD_mem hk
      show 0 ≤ (if Qt.dvb ((ofNormC P).getD k ⟨0, 0, 0, 0⟩) x then cntR (q :: l) (Qt.lq ((ofNormC P).getD k ⟨0, 0, 0, 0⟩) x) else 0) ∧ (if Qt.dvb ((ofNormC P).getD k ⟨0, 0, 0, 0⟩) x then cntR (q :: l) (Qt.lq ((ofNormC P).getD k ⟨0, 0, 0, 0⟩) x) else 0) ≤ 1358954496
      by_cases hb : Qt.dvb ((ofNormC P).getD k ⟨0, 0, 0, 0⟩) x = true
      · rw [if_pos hb]
        obtain ⟨d1, d2⟩ := hmem _ hm
        exact hbd _ d1 d2 (hdl _ hm hb)
      · rw [if_neg hb]; omega
    · intro k d hd w
      have hm := List.mem_of_getElem? hd
      obtain ⟨d1, d2⟩ := hmem d hm
      have e : (ofNormC P).getD k ⟨0, 0, 0, 0⟩ = d := getD_at hd
      show Calls _ _ _ w fun e w' => e = .returned (.tuple #[.agg #[.int .i64 ((if Qt.dvb ((ofNormC P).getD k ⟨0, 0, 0, 0⟩) x then Qt.lq ((ofNormC P).getD k ⟨0, 0, 0, 0⟩) x else ⟨0, 0, 0, 0⟩)).w, .int .i64 ((if Qt.dvb ((ofNormC P).getD k ⟨0, 0, 0, 0⟩) x then Qt.lq ((ofNormC P).getD k ⟨0, 0, 0, 0⟩) x else ⟨0, 0, 0, 0⟩)).x, .int .i64 ((if Qt.dvb ((ofNormC P).getD k ⟨0, 0, 0, 0⟩) x then Qt.lq ((ofNormC P).getD k ⟨0, 0, 0, 0⟩) x else ⟨0, 0, 0, 0⟩)).y, .int .i64 ((if Qt.dvb ((ofNormC P).getD k ⟨0, 0, 0, 0⟩) x then Qt.lq ((ofNormC P).getD k ⟨0, 0, 0, 0⟩) x else ⟨0, 0, 0, 0⟩)).z], .bool (Qt.dvb ((ofNormC P).getD k ⟨0, 0, 0, 0⟩) x)]) ∧ Below w.heap.size w w'
      rw [e]
      rw [Int.toNat_natCast] at d2
      by_cases hb : Qt.dvb d x = true
      · rw [if_pos hb, hb]
        have hdx := hdl d hm hb
        obtain ⟨b1, b2, b3⟩ := lq_bd h d1 (by rw [Int.toNat_natCast]; exact d2) hdx
        have h5 := rleft_ok d (Qt.lq d x) d1 (Qt.lq_dl d1 (by omega) hdx).1 (by omega) (by omega) (by omega) w
        rw [← b3] at h5
        exact h5
      · have hb' : Qt.dvb d x = false := by simpa using hb
        rw [if_neg hb, hb']
        exact rleft_no d x d1 h.hz (by omega) (by omega) hx hb' w
    · intro k hk hb W hW
      have hm := getD_mem hk
      have hb : Qt.dvb ((ofNormC P).getD k ⟨0, 0, 0, 0⟩) x = true := hb
      obtain ⟨d1, d2⟩ := hmem _ hm
      have h5 := hrec _ d1 d2 (hdl _ hm hb) W hW
      show Calls _ _ #[.agg #[.int .i64 ((if Qt.dvb ((ofNormC P).getD k ⟨0, 0, 0, 0⟩) x then Qt.lq ((ofNormC P).getD k ⟨0, 0, 0, 0⟩) x else ⟨0, 0, 0, 0⟩)).w, .int .i64 ((if Qt.dvb ((ofNormC P).getD k ⟨0, 0, 0, 0⟩) x then Qt.lq ((ofNormC P).getD k ⟨0, 0, 0, 0⟩) x else ⟨0, 0, 0, 0⟩)).x, .int .i64 ((if Qt.dvb ((ofNormC P).getD k ⟨0, 0, 0, 0⟩) x then Qt.lq ((ofNormC P).getD k ⟨0, 0, 0, 0⟩) x else ⟨0, 0, 0, 0⟩)).y, .int .i64 ((if Qt.dvb ((ofNormC P).getD k ⟨0, 0, 0, 0⟩) x then Qt.lq ((ofNormC P).getD k ⟨0, 0, 0, 0⟩) x else ⟨0, 0, 0, 0⟩)).z], _] W fun e w' => e = .returned (.int .i64 ((if Qt.dvb ((ofNormC P).getD k ⟨0, 0, 0, 0⟩) x then cntR (q :: l) (Qt.lq ((ofNormC P).getD k ⟨0, 0, 0, 0⟩) x) else 0))) ∧ Below W.heap.size W w'
      rw [if_pos hb, if_pos hb]
      exact h5
end Go.Proofs.Ythajaabgcbjfkaa
