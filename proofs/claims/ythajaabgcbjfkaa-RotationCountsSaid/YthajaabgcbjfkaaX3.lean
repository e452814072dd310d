/- Contracts: a model's errors, of the program and of the reference. -/
import Derived.Test.YthajaabgcbjfkaaX1
import Derived.Test.YthajaabgcbjfkaaR1
namespace Go.Proofs.Ythajaabgcbjfkaa
open Go.RowKit
attribute [local go_sem ↓] Go.wp_at_zero Go.wp_at_succ

def okP (p : Int) : Bool := decide (p ≤ 1000000) && mrfour p.toNat
theorem okP_iff {p : Int} : okP p = true ↔ p ≤ 1000000 ∧ Prm p.toNat := by
  unfold okP
  rw [Bool.and_eq_true, decide_eq_true_iff]
  constructor
  · rintro ⟨h1, h2⟩; exact ⟨h1, (four_pr (by omega)).1 h2⟩
  · rintro ⟨h1, h2⟩; exact ⟨h1, (four_pr (by omega)).2 h2⟩
theorem okP_two {p : Int} (h : okP p = true) : 2 ≤ p ∧ p ≤ 1000000 := by
  obtain ⟨h1, h2⟩ := okP_iff.1 h
  have := h2.1
  omega
/-- A product that stays at a limit. -/
def satP (B : Int) (l : List Int) : Int := l.foldl (fun a p => if a * p ≤ B then a * p else B) 1
theorem satP_snoc (B : Int) (l : List Int) (p : Int) : satP B (l ++ [p]) = if satP B l * p ≤ B then satP B l * p else B := by
  unfold satP; rw [List.foldl_append]; rfl
def prodZ (l : List Int) : Int := l.foldl (fun a p => a * p) 1
theorem prodZ_snoc (l : List Int) (p : Int) : prodZ (l ++ [p]) = prodZ l * p := by simp [prodZ]
theorem satP_spec (B : Int) (hB : 1 ≤ B) : ∀ (l : List Int), (∀ p ∈ l, 2 ≤ p) → satP B l = (if prodZ l ≤ B then prodZ l else B) ∧ 1 ≤ prodZ l := fun l => by
  induction hl : l.length generalizing l with
  | zero =>
    obtain rfl := List.eq_nil_of_length_eq_zero hl
    intro _
    show (1 : Int) = (if (1 : Int) ≤ B then (1 : Int) else B) ∧ (1 : Int) ≤ 1
    rw [if_pos hB]; exact ⟨rfl, Int.le_refl _⟩
  | succ n ih =>
    intro h
    have hne : l ≠ [] := fun e => by rw [e] at hl; simp at hl
    rw [← List.dropLast_concat_getLast hne] at h ⊢
    obtain ⟨h1, h2⟩ := ih l.dropLast (by rw [List.length_dropLast, hl]; rfl) (fun p hp => h p (List.mem_append_left _ hp))
    have hp := h (l.getLast hne) (by simp)
    generalize l.getLast hne = p at *
    rw [satP_snoc, prodZ_snoc, h1]
    have hpos : prodZ l.dropLast * 1 ≤ prodZ l.dropLast * p := Int.mul_le_mul_of_nonneg_left (by omega) (by omega)
    have hBp : B * 1 ≤ B * p := Int.mul_le_mul_of_nonneg_left (by omega) (by omega)
    have hB2 : B * 2 ≤ B * p := Int.mul_le_mul_of_nonneg_left (by omega) (by omega)
    by_cases hc : prodZ l.dropLast ≤ B
    · rw [if_pos hc]; exact ⟨rfl, by omega⟩
    · rw [if_neg hc, if_neg (by omega), if_neg (by omega)]; exact ⟨rfl, by omega⟩
theorem satP_eq {B N : Int} (hB : 1 ≤ B) (hN : N < B) {l : List Int} (h : ∀ p ∈ l, 2 ≤ p) : satP B l = N ↔ prodZ l = N := by
  rw [(satP_spec B hB l h).1]
  split <;> omega
theorem satP_bd {B : Int} (hB : 1 ≤ B) {l : List Int} (h : ∀ p ∈ l, 2 ≤ p) : 1 ≤ satP B l ∧ satP B l ≤ B := by
  obtain ⟨h1, h2⟩ := satP_spec B hB l h
  rw [h1]
  split <;> omega
/-- The error of a model, behind its length. -/
def merr (N : Int) (l : List Int) : Int := if l.all okP then (if prodZ l = N then 0 else 9) else 11
section
variable (x : Qd) (X : Qt)
  (ho : ∀ (W : World) (m : Nat), m = W.heap.size → Calls Try.prog 64 #[.slice (some ⟨m, 0, none⟩) 1 1] (W.alloc (.cells #[.int .i64 x.w, .int .i64 x.x, .int .i64 x.y, .int .i64 x.z, .int .i64 x.d] 23)) fun e w' => ∃ g cap, e = .returned (.tuple #[.slice (some ⟨g, 0, none⟩) 1 cap, .int .i64 0]) ∧ (g < w'.heap.size ∧ H4 w' g 0 X) ∧ Below (W.alloc (.cells #[.int .i64 x.w, .int .i64 x.x, .int .i64 x.y, .int .i64 x.z, .int .i64 x.d] 23)).heap.size (W.alloc (.cells #[.int .i64 x.w, .int .i64 x.x, .int .i64 x.y, .int .i64 x.z, .int .i64 x.d] 23)) w')
theorem cm_err (x : Qd) (v : Value) (h : x.oerr ≠ 0) (w : World) :
    Calls Try.prog 105 #[.agg #[.int .i64 x.w, .int .i64 x.x, .int .i64 x.y, .int .i64 x.z, .int .i64 x.d], v] w fun e w' => e = .returned (.tuple #[.agg #[.int .i64 0, .int .i64 0, .int .i64 0, .int .i64 0], .int .i64 x.oerr]) ∧ Below w.heap.size w w' := by
  have h' : oerrL [x] ≠ 0 := by rw [oerrL_one]; exact h
  have HO := Lib.hid (fun W m hm => open_err1 x W h' (m := m) hm)
  rw [oerrL_one] at HO
  have hd : (x.oerr != 0) = true := by simpa using h
  go_enter Try.func105, Try.ntmps105
  go_wp2_with (first | (go_at_call 64; with_reducible refine (HO.out _ _ (by simp)).mono ?_; rintro e w1 ⟨rfl, hb1⟩; obtain ⟨g1, rfl⟩ := more_of_below hb1; clear hb1))
  refine bodyPost_ret (v := .tuple #[.agg #[.int .i64 0, .int .i64 0, .int .i64 0, .int .i64 0], .int .i64 x.oerr]) (by simp [results, Try.results105, go_sem]) rfl ⟨rfl, by (repeat (first | with_reducible assumption | with_reducible exact Below.refl _ _ | with_reducible refine Below.drewN ?_ _ | with_reducible refine Below.drew ?_ | with_reducible refine Below.alloc ?_ (by first | omega | (simp; done) | (simp; omega)) _ | with_reducible refine Below.setCell ?_ (by first | omega | (simp; done) | (simp; omega)) _ | with_reducible refine below_more _ _ ?_ (by first | omega | (simp; done) | (simp; omega))))⟩
include ho
set_option maxRecDepth 10000 in
set_option maxHeartbeats 2000000 in
theorem cm_zero (v : Value) (cz : ∀ w, Calls Try.prog 65 #[.agg #[.int .i64 X.w, .int .i64 X.x, .int .i64 X.y, .int .i64 X.z]] w fun e w' => e = .returned (.bool true) ∧ Below w.heap.size w w') (w : World) :
    Calls Try.prog 105 #[.agg #[.int .i64 x.w, .int .i64 x.x, .int .i64 x.y, .int .i64 x.z, .int .i64 x.d], v] w fun e w' => e = .returned (.tuple #[.agg #[.int .i64 0, .int .i64 0, .int .i64 0, .int .i64 0], .int .i64 10]) ∧ Below w.heap.size w w' := by
  have HO := Lib.hid ho; have CZ := Lib.hid cz
  clear ho cz
  go_enter Try.func105, Try.ntmps105
  go_wp2_with (first | (go_at_call 64; refine (HO.out _ _ (by simp)).mono ?_; rintro e w1 ⟨g, cap, rfl, ⟨hg, ⟨c0, c1, c2, c3⟩⟩, hb1⟩; obtain ⟨g1, rfl⟩ := more_of_below hb1; clear hb1; simp only [size_more_eq, World.size_alloc] at hg) | (go_at_call 65; with_reducible refine (CZ.out _).mono ?_; rintro e w2 ⟨rfl, hb2⟩; obtain ⟨g2, rfl⟩ := more_of_below hb2; clear hb2))
  refine bodyPost_ret (v := .tuple #[.agg #[.int .i64 0, .int .i64 0, .int .i64 0, .int .i64 0], .int .i64 10]) (by simp [results, Try.results105, go_sem]) rfl ⟨rfl, by (repeat (first | with_reducible assumption | with_reducible exact Below.refl _ _ | with_reducible refine Below.drewN ?_ _ | with_reducible refine Below.drew ?_ | with_reducible refine Below.alloc ?_ (by first | omega | (simp; done) | (simp; omega)) _ | with_reducible refine Below.setCell ?_ (by first | omega | (simp; done) | (simp; omega)) _ | with_reducible refine below_more _ _ ?_ (by first | omega | (simp; done) | (simp; omega))))⟩
set_option maxRecDepth 10000 in
set_option maxHeartbeats 2000000 in
theorem cm_len (a : Option Addr) (n cap0 : Nat) (hn : n < 1 ∨ 6 < n) (hn2 : n ≤ 1000000) (cz : ∀ w, Calls Try.prog 65 #[.agg #[.int .i64 X.w, .int .i64 X.x, .int .i64 X.y, .int .i64 X.z]] w fun e w' => e = .returned (.bool false) ∧ Below w.heap.size w w') (w : World) :
    Calls Try.prog 105 #[.agg #[.int .i64 x.w, .int .i64 x.x, .int .i64 x.y, .int .i64 x.z, .int .i64 x.d], .slice a n cap0] w fun e w' => e = .returned (.tuple #[.agg #[.int .i64 0, .int .i64 0, .int .i64 0, .int .i64 0], .int .i64 2]) ∧ Below w.heap.size w w' := by
  have HO := Lib.hid ho; have CZ := Lib.hid cz
  clear ho cz
  rcases hn with hn | hn
  all_goals
    go_enter Try.func105, Try.ntmps105
    go_wp2_with (first | (go_at_call 64; refine (HO.out _ _ (by simp)).mono ?_; rintro e w1 ⟨g, cap, rfl, ⟨hg, ⟨c0, c1, c2, c3⟩⟩, hb1⟩; obtain ⟨g1, rfl⟩ := more_of_below hb1; clear hb1; simp only [size_more_eq, World.size_alloc] at hg) | (go_at_call 65; with_reducible refine (CZ.out _).mono ?_; rintro e w2 ⟨rfl, hb2⟩; obtain ⟨g2, rfl⟩ := more_of_below hb2; clear hb2))
    refine bodyPost_ret (v := .tuple #[.agg #[.int .i64 0, .int .i64 0, .int .i64 0, .int .i64 0], .int .i64 2]) (by simp [results, Try.results105, go_sem]) rfl ⟨rfl, by (repeat (first | with_reducible assumption | with_reducible exact Below.refl _ _ | with_reducible refine Below.drewN ?_ _ | with_reducible refine Below.drew ?_ | with_reducible refine Below.alloc ?_ (by first | omega | (simp; done) | (simp; omega)) _ | with_reducible refine Below.setCell ?_ (by first | omega | (simp; done) | (simp; omega)) _ | with_reducible refine below_more _ _ ?_ (by first | omega | (simp; done) | (simp; omega))))⟩
set_option maxRecDepth 10000 in
set_option maxHeartbeats 4000000 in
theorem cm_model (l : List Int) (a : Addr) (cap0 : Nat) (N : Int) (hN : 0 ≤ N ∧ N ≤ 1000000) (hl : 1 ≤ l.length ∧ l.length ≤ 6) (Z : Qt) (hZ : Z = if merr N l = 0 then X else ⟨0, 0, 0, 0⟩) (cz : ∀ w, Calls Try.prog 65 #[.agg #[.int .i64 X.w, .int .i64 X.x, .int .i64 X.y, .int .i64 X.z]] w fun e w' => e = .returned (.bool false) ∧ Below w.heap.size w w')
    (cn : ∀ w, Calls Try.prog 79 #[.agg #[.int .i64 X.w, .int .i64 X.x, .int .i64 X.y, .int .i64 X.z]] w fun e w' => e = .returned (.int .i64 N) ∧ Below w.heap.size w w') (w : World) (hz : ZAt w a l) :
    Calls Try.prog 105 #[.agg #[.int .i64 x.w, .int .i64 x.x, .int .i64 x.y, .int .i64 x.z, .int .i64 x.d], .slice (some a) l.length cap0] w fun e w' => e = .returned (.tuple #[.agg #[.int .i64 Z.w, .int .i64 Z.x, .int .i64 Z.y, .int .i64 Z.z], .int .i64 (merr N l)]) ∧ Below w.heap.size w w' := by
  have HO := Lib.hid ho; have CZ := Lib.hid cz; have CN := Lib.hid cn; have HZ := Lib.hid hz
  clear ho cz cn hz
  obtain ⟨n, hn⟩ : ∃ n, n = l.length := ⟨_, rfl⟩
  have HL := Lib.hid hn
  rw [← hn] at hl ⊢
  clear hn
  obtain ⟨hl1, hl2⟩ := hl
  obtain ⟨m, hm⟩ : ∃ m, m = merr N l := ⟨_, rfl⟩
  rw [← hm] at hZ ⊢
  have HM := Lib.hid hm
  have HZZ := Lib.hid hZ
  clear hm hZ
  go_enter Try.func105, Try.ntmps105
  go_wp2_with (first | (go_at_call 64; refine (HO.out _ _ (by simp)).mono ?_; rintro e w1 ⟨g, cap, rfl, ⟨hg, ⟨c0, c1, c2, c3⟩⟩, hb1⟩; obtain ⟨g1, rfl⟩ := more_of_below hb1; clear hb1; simp only [size_more_eq, World.size_alloc] at hg) | (go_at_call 65; (with_reducible refine (CZ.out _).mono ?_); rintro e W0 ⟨rfl, hb0⟩; have HB0 := Lib.hid hb0; clear hb0))
  have hb4 := HB0.out
  have hB0 : Below w.heap.size w W0 := Below.trans (by (repeat (first | with_reducible assumption | with_reducible exact Below.refl _ _ | with_reducible refine Below.drewN ?_ _ | with_reducible refine Below.drew ?_ | with_reducible refine Below.alloc ?_ (by first | omega | (simp; done) | (simp; omega)) _ | with_reducible refine Below.setCell ?_ (by first | omega | (simp; done) | (simp; omega)) _ | with_reducible refine below_more _ _ ?_ (by first | omega | (simp; done) | (simp; omega))))) (hb4.mono (by simp; omega))
  have hg0 : g < W0.heap.size := Nat.lt_of_lt_of_le (by simp; omega) hb4.size
  have z0 : H4 W0 g 0 X := (H4.mk c0 c1 c2 c3).below hb4 (by simp; omega)
  have r0 : W0.cell? ⟨w.heap.size + 1, 0, none⟩ = some (.int .i64 0) := (hb4.cell (by simp; omega)).trans (by go_simp)
  have r1 : W0.cell? ⟨w.heap.size + 1, 1, none⟩ = some (.int .i64 0) := (hb4.cell (by simp; omega)).trans (by go_simp)
  have r2 : W0.cell? ⟨w.heap.size + 1, 2, none⟩ = some (.int .i64 0) := (hb4.cell (by simp; omega)).trans (by go_simp)
  have r3 : W0.cell? ⟨w.heap.size + 1, 3, none⟩ = some (.int .i64 0) := (hb4.cell (by simp; omega)).trans (by go_simp)
  have f0 : W0.frozen? ⟨w.heap.size + 1, 0, none⟩ = false := (hb4.frozen (by simp; omega)).trans (by go_simp)
  have f1 : W0.frozen? ⟨w.heap.size + 1, 1, none⟩ = false := (hb4.frozen (by simp; omega)).trans (by go_simp)
  have f2 : W0.frozen? ⟨w.heap.size + 1, 2, none⟩ = false := (hb4.frozen (by simp; omega)).trans (by go_simp)
  have f3 : W0.frozen? ⟨w.heap.size + 1, 3, none⟩ = false := (hb4.frozen (by simp; omega)).trans (by go_simp)
  have hr0 : w.heap.size + 1 < W0.heap.size := Nat.lt_of_lt_of_le (by simp; omega) hb4.size
  have hZ0 : ZAt W0 a l := HZ.out.below hB0 (Nat.le_refl _)
  obtain ⟨x0, x1, x2, x3⟩ := z0
  have HB := Lib.hid hB0
  have HZ0 := Lib.hid hZ0
  clear c0 c1 c2 c3 hg hb4 HB0 HO CZ HZ hB0 hZ0
  go_loopw [8, 40] (fun pr i wr => ∃ k : Nat, k ≤ n ∧ i = .int .i64 k ∧ pr = .int .i64 (satP 1000001 (l.take k)) ∧ Hid (∀ q ∈ l.take k, okP q = true) ∧ Ext W0 wr) (fun _ i _ => n - (intOf i).toNat)
  case atStart => exact ⟨0, by omega, rfl, by simp [satP], fun q hq => by simp at hq, Ext.refl _⟩
  case round =>
    obtain ⟨k, hk, rfl, rfl, HK, hext⟩ := hrel
    obtain ⟨gx, rfl⟩ := more_of_below (Ext.below hext)
    clear hext
    have hall : ∀ q ∈ l.take k, 2 ≤ q := fun q hq => (okP_two (HK.out q hq)).1
    obtain ⟨b1, b2⟩ := satP_bd (B := 1000001) (by omega) hall
    by_cases hkn : k < n
    · obtain ⟨q, hq⟩ : ∃ q, l[k]? = some q := ⟨l[k]'(by rw [← HL.out]; exact hkn), List.getElem?_eq_getElem _⟩
      have cq := (HZ0.out.mor gx) k q hq
      have kn : (k : Int) < (n : Int) := by omega
      have hsn := satP_snoc 1000001 (l.take k) q
      have htk : l.take (k + 1) = l.take k ++ [q] := by rw [List.take_add_one, hq]; rfl
      rw [← htk] at hsn
      have HS := Lib.hid hsn
      have HT := Lib.hid htk
      have hbad : okP q = false → m = 11 := fun h => by
        rw [HM.out]; unfold merr
        rw [if_neg]
        intro ha
        have := List.all_eq_true.1 ha q (List.mem_of_getElem? hq)
        rw [h] at this; exact absurd this (by decide)
      have HBD : Hid (okP q = false → m = 11) := hbad
      clear hq hsn htk hbad hall
      generalize satP 1000001 (l.take k) = s at *
      by_cases h1 : 1000000 < q
      · have hm11 : m = 11 := HBD.out (by unfold okP; rw [decide_eq_false (by omega), Bool.false_and])
        have hz2 : Z = ⟨0, 0, 0, 0⟩ := by rw [HZZ.out, hm11]; rfl
        subst hm11; subst hz2
        clear HM HZZ HBD HS HT
        go_wp2
        refine bodyPost_ret (v := .tuple #[.agg #[.int .i64 0, .int .i64 0, .int .i64 0, .int .i64 0], .int .i64 11]) (by simp [results, Try.results105, go_sem, hr0, r0, r1, r2, r3]) rfl ⟨rfl, by have hB := HB.out; (repeat (first | with_reducible assumption | with_reducible exact Below.refl _ _ | with_reducible refine Below.drewN ?_ _ | with_reducible refine Below.drew ?_ | with_reducible refine Below.alloc ?_ (by first | omega | (simp; done) | (simp; omega)) _ | with_reducible refine Below.setCell ?_ (by first | omega | (simp; done) | (simp; omega)) _ | with_reducible refine below_more _ _ ?_ (by first | omega | (simp; done) | (simp; omega))))⟩
      · have C := Lib.hid (isPrime_all q (by omega))
        cases hp : mrfour q.toNat
        · rw [hp] at C
          have hm11 : m = 11 := HBD.out (by unfold okP; rw [hp, Bool.and_false])
          have hz2 : Z = ⟨0, 0, 0, 0⟩ := by rw [HZZ.out, hm11]; rfl
          subst hm11; subst hz2
          clear HM HZZ HBD HS HT hp
          go_wp2_with (first | (go_at_call 102; with_reducible refine (C.out _).mono ?_; rintro e w5 ⟨rfl, hb5⟩; obtain ⟨g5, rfl⟩ := more_of_below hb5; clear hb5))
          refine bodyPost_ret (v := .tuple #[.agg #[.int .i64 0, .int .i64 0, .int .i64 0, .int .i64 0], .int .i64 11]) (by simp [results, Try.results105, go_sem, hr0, r0, r1, r2, r3]) rfl ⟨rfl, by have hB := HB.out; (repeat (first | with_reducible assumption | with_reducible exact Below.refl _ _ | with_reducible refine Below.drewN ?_ _ | with_reducible refine Below.drew ?_ | with_reducible refine Below.alloc ?_ (by first | omega | (simp; done) | (simp; omega)) _ | with_reducible refine Below.setCell ?_ (by first | omega | (simp; done) | (simp; omega)) _ | with_reducible refine below_more _ _ ?_ (by first | omega | (simp; done) | (simp; omega))))⟩
        · rw [hp] at C
          have hok : okP q = true := by unfold okP; rw [hp, decide_eq_true (by omega)]; rfl
          obtain ⟨q2, q3⟩ := okP_two hok
          have m1 : 0 ≤ s * q := Int.mul_nonneg (by omega) (by omega)
          have m2 : s * q ≤ 1000001 * 1000000 := Int.mul_le_mul b2 q3 (by omega) (by omega)
          have HOK := Lib.hid hok
          clear hok hp
          go_wp2_with (first | (go_at_call 102; with_reducible refine (C.out _).mono ?_; rintro e w5 ⟨rfl, hb5⟩; obtain ⟨g5, rfl⟩ := more_of_below hb5; clear hb5))
          go_roundw
          case rel =>
            refine ⟨k + 1, by omega, by go_num, ?_, fun r hr => ?_, ext_mk (by (repeat (first | with_reducible assumption | with_reducible exact Below.refl _ _ | with_reducible refine Below.drewN ?_ _ | with_reducible refine Below.drew ?_ | with_reducible refine Below.alloc ?_ (by first | omega | (simp; done) | (simp; omega)) _ | with_reducible refine Below.setCell ?_ (by first | omega | (simp; done) | (simp; omega)) _ | with_reducible refine below_more _ _ ?_ (by first | omega | (simp; done) | (simp; omega)))))⟩
            · rw [HS.out, Int.min_def]
            · rw [HT.out] at hr
              rcases List.mem_append.1 hr with h | h
              · exact HK.out r h
              · rw [List.mem_singleton.1 h]; exact HOK.out
          case measure => simp [intOf]; omega
    · obtain rfl : k = n := by omega
      have et : l.take k = l := List.take_of_length_le (by rw [← HL.out]; exact Nat.le_refl _)
      rw [et] at HK hall b1 b2 ⊢
      have hprod := satP_eq (B := 1000001) (N := N) (by omega) (by omega) hall
      have hmm : m = if satP 1000001 l = N then 0 else 9 := by
        rw [HM.out]; unfold merr
        rw [if_pos (List.all_eq_true.2 HK.out)]
        by_cases h : prodZ l = N
        · rw [if_pos h, if_pos (hprod.2 h)]
        · rw [if_neg h, if_neg (fun hc => h (hprod.1 hc))]
      have HMM := Lib.hid hmm
      clear hmm hprod hall et HM HK
      generalize satP 1000001 l = s at *
      by_cases hs : s = N
      · have hm0 : m = 0 := by rw [HMM.out, if_pos hs]
        have hz2 : Z = X := by rw [HZZ.out, hm0]; rfl
        have e1 : (s != N) = false := by simpa using hs
        subst hm0; subst hz2
        clear HMM HZZ hs
        go_wp2_with (first | (go_at_call 79; with_reducible refine (CN.out _).mono ?_; rintro e w6 ⟨rfl, hb6⟩; obtain ⟨g6, rfl⟩ := more_of_below hb6; clear hb6))
        refine bodyPost_ret (v := .tuple #[.agg #[.int .i64 Z.w, .int .i64 Z.x, .int .i64 Z.y, .int .i64 Z.z], .int .i64 0]) (by simp [results, Try.results105, go_sem, hr0, r0, r1, r2, r3]) rfl ⟨rfl, by have hB := HB.out; (repeat (first | with_reducible assumption | with_reducible exact Below.refl _ _ | with_reducible refine Below.drewN ?_ _ | with_reducible refine Below.drew ?_ | with_reducible refine Below.alloc ?_ (by first | omega | (simp; done) | (simp; omega)) _ | with_reducible refine Below.setCell ?_ (by first | omega | (simp; done) | (simp; omega)) _ | with_reducible refine below_more _ _ ?_ (by first | omega | (simp; done) | (simp; omega))))⟩
      · have hm0 : m = 9 := by rw [HMM.out, if_neg hs]
        have hz2 : Z = ⟨0, 0, 0, 0⟩ := by rw [HZZ.out, hm0]; rfl
        have e1 : (s != N) = true := by simpa using hs
        subst hm0; subst hz2
        clear HMM HZZ hs
        go_wp2_with (first | (go_at_call 79; with_reducible refine (CN.out _).mono ?_; rintro e w6 ⟨rfl, hb6⟩; obtain ⟨g6, rfl⟩ := more_of_below hb6; clear hb6))
        refine bodyPost_ret (v := .tuple #[.agg #[.int .i64 0, .int .i64 0, .int .i64 0, .int .i64 0], .int .i64 9]) (by simp [results, Try.results105, go_sem, hr0, r0, r1, r2, r3]) rfl ⟨rfl, by have hB := HB.out; (repeat (first | with_reducible assumption | with_reducible exact Below.refl _ _ | with_reducible refine Below.drewN ?_ _ | with_reducible refine Below.drew ?_ | with_reducible refine Below.alloc ?_ (by first | omega | (simp; done) | (simp; omega)) _ | with_reducible refine Below.setCell ?_ (by first | omega | (simp; done) | (simp; omega)) _ | with_reducible refine below_more _ _ ?_ (by first | omega | (simp; done) | (simp; omega))))⟩
end
theorem rprime_ok (q : Int) (h : q ≤ 1000000) (w : World) :
    Calls Try.prog 54 #[.int .i64 q] w fun e w' => e = .returned (.bool (mrfour q.toNat)) ∧ Below w.heap.size w w' :=
  rprime_in q (by omega) (mrfour q.toNat) (four_pr (by omega)) w
set_option maxRecDepth 10000 in
set_option maxHeartbeats 2000000 in
theorem rm_zero (X : Qt) (v : Value) (cz : ∀ w, Calls Try.prog 18 #[.agg #[.int .i64 X.w, .int .i64 X.x, .int .i64 X.y, .int .i64 X.z]] w fun e w' => e = .returned (.bool true) ∧ Below w.heap.size w w') (w : World) :
    Calls Try.prog 60 #[.agg #[.int .i64 X.w, .int .i64 X.x, .int .i64 X.y, .int .i64 X.z], v] w fun e w' => e = .returned (.int .i64 10) ∧ Below w.heap.size w w' := by
  have CZ := Lib.hid cz
  clear cz
  go_enter Try.func60, Try.ntmps60
  go_wp2_with (first | (go_at_call 18; with_reducible refine (CZ.out _).mono ?_; rintro e w1 ⟨rfl, hb1⟩; obtain ⟨g1, rfl⟩ := more_of_below hb1; clear hb1))
  go_ret
  exact ⟨rfl, by (repeat (first | with_reducible assumption | with_reducible exact Below.refl _ _ | with_reducible refine Below.drewN ?_ _ | with_reducible refine Below.drew ?_ | with_reducible refine Below.alloc ?_ (by first | omega | (simp; done) | (simp; omega)) _ | with_reducible refine Below.setCell ?_ (by first | omega | (simp; done) | (simp; omega)) _ | with_reducible refine below_more _ _ ?_ (by first | omega | (simp; done) | (simp; omega))))⟩
set_option maxRecDepth 10000 in
set_option maxHeartbeats 2000000 in
theorem rm_len (X : Qt) (a : Option Addr) (n cap0 : Nat) (hn : inB (n : Int) 1 6 = false) (cz : ∀ w, Calls Try.prog 18 #[.agg #[.int .i64 X.w, .int .i64 X.x, .int .i64 X.y, .int .i64 X.z]] w fun e w' => e = .returned (.bool false) ∧ Below w.heap.size w w') (w : World) :
    Calls Try.prog 60 #[.agg #[.int .i64 X.w, .int .i64 X.x, .int .i64 X.y, .int .i64 X.z], .slice a n cap0] w fun e w' => e = .returned (.int .i64 2) ∧ Below w.heap.size w w' := by
  have CZ := Lib.hid cz
  clear cz
  go_enter Try.func60, Try.ntmps60
  go_wp2_with (first | (go_at_call 18; with_reducible refine (CZ.out _).mono ?_; rintro e w1 ⟨rfl, hb1⟩; obtain ⟨g1, rfl⟩ := more_of_below hb1; clear hb1) | (go_at_call 25; with_reducible refine (within_any _ _ _ _).mono ?_; rintro e w' ⟨rfl, rfl⟩))
  go_ret
  exact ⟨rfl, by (repeat (first | with_reducible assumption | with_reducible exact Below.refl _ _ | with_reducible refine Below.drewN ?_ _ | with_reducible refine Below.drew ?_ | with_reducible refine Below.alloc ?_ (by first | omega | (simp; done) | (simp; omega)) _ | with_reducible refine Below.setCell ?_ (by first | omega | (simp; done) | (simp; omega)) _ | with_reducible refine below_more _ _ ?_ (by first | omega | (simp; done) | (simp; omega))))⟩
set_option maxRecDepth 10000 in
set_option maxHeartbeats 4000000 in
theorem rm_model (X : Qt) (l : List Int) (a : Addr) (cap0 : Nat) (N : Int) (hN : 0 ≤ N ∧ N ≤ 1000000) (hl : 1 ≤ l.length ∧ l.length ≤ 6) (cz : ∀ w, Calls Try.prog 18 #[.agg #[.int .i64 X.w, .int .i64 X.x, .int .i64 X.y, .int .i64 X.z]] w fun e w' => e = .returned (.bool false) ∧ Below w.heap.size w w')
    (cn : ∀ w, Calls Try.prog 21 #[.agg #[.int .i64 X.w, .int .i64 X.x, .int .i64 X.y, .int .i64 X.z]] w fun e w' => e = .returned (.int .i64 N) ∧ Below w.heap.size w w') (w : World) (hz : ZAt w a l) :
    Calls Try.prog 60 #[.agg #[.int .i64 X.w, .int .i64 X.x, .int .i64 X.y, .int .i64 X.z], .slice (some a) l.length cap0] w fun e w' => e = .returned (.int .i64 (merr N l)) ∧ Below w.heap.size w w' := by
  have CZ := Lib.hid cz; have CN := Lib.hid cn; have HZ := Lib.hid hz
  clear cz cn hz
  obtain ⟨n, hn⟩ : ∃ n, n = l.length := ⟨_, rfl⟩
  have HL := Lib.hid hn
  rw [← hn] at hl ⊢
  clear hn
  obtain ⟨hl1, hl2⟩ := hl
  obtain ⟨m, hm⟩ : ∃ m, m = merr N l := ⟨_, rfl⟩
  rw [← hm]
  have HM := Lib.hid hm
  clear hm
  have hin : inB (n : Int) 1 6 = true := by unfold inB; simp; omega
  go_enter Try.func60, Try.ntmps60
  go_wp2_with (first | (go_at_call 18; (with_reducible refine (CZ.out _).mono ?_); rintro e W0 ⟨rfl, hb0⟩; have HB0 := Lib.hid hb0; clear hb0) | (go_at_call 25; with_reducible refine (within_any _ _ _ _).mono ?_; rintro e w' ⟨rfl, rfl⟩))
  have hb4 := HB0.out
  have hB0 : Below w.heap.size w W0 := Below.trans (by (repeat (first | with_reducible assumption | with_reducible exact Below.refl _ _ | with_reducible refine Below.drewN ?_ _ | with_reducible refine Below.drew ?_ | with_reducible refine Below.alloc ?_ (by first | omega | (simp; done) | (simp; omega)) _ | with_reducible refine Below.setCell ?_ (by first | omega | (simp; done) | (simp; omega)) _ | with_reducible refine below_more _ _ ?_ (by first | omega | (simp; done) | (simp; omega))))) (hb4.mono (by simp))
  have r0 : W0.cell? ⟨w.heap.size, 0, none⟩ = some (.int .i64 X.w) := (hb4.cell (by simp)).trans (by go_simp)
  have r1 : W0.cell? ⟨w.heap.size, 1, none⟩ = some (.int .i64 X.x) := (hb4.cell (by simp)).trans (by go_simp)
  have r2 : W0.cell? ⟨w.heap.size, 2, none⟩ = some (.int .i64 X.y) := (hb4.cell (by simp)).trans (by go_simp)
  have r3 : W0.cell? ⟨w.heap.size, 3, none⟩ = some (.int .i64 X.z) := (hb4.cell (by simp)).trans (by go_simp)
  have hr0 : w.heap.size < W0.heap.size := Nat.lt_of_lt_of_le (by simp) hb4.size
  have hZ0 : ZAt W0 a l := HZ.out.below hB0 (Nat.le_refl _)
  have HB := Lib.hid hB0
  have HZ0 := Lib.hid hZ0
  clear hb4 HB0 CZ HZ hB0 hZ0
  go_loopw [5, 6] (fun pr i wr => ∃ k : Nat, k ≤ n ∧ i = .int .i64 k ∧ pr = .int .i64 (satP 2000000 (l.take k)) ∧ Hid (∀ q ∈ l.take k, okP q = true) ∧ Ext W0 wr) (fun _ i _ => n - (intOf i).toNat)
  case atStart => exact ⟨0, by omega, rfl, by simp [satP], fun q hq => by simp at hq, Ext.refl _⟩
  case round =>
    obtain ⟨k, hk, rfl, rfl, HK, hext⟩ := hrel
    obtain ⟨gx, rfl⟩ := more_of_below (Ext.below hext)
    clear hext
    have hall : ∀ q ∈ l.take k, 2 ≤ q := fun q hq => (okP_two (HK.out q hq)).1
    obtain ⟨b1, b2⟩ := satP_bd (B := 2000000) (by omega) hall
    by_cases hkn : k < n
    · obtain ⟨q, hq⟩ : ∃ q, l[k]? = some q := ⟨l[k]'(by rw [← HL.out]; exact hkn), List.getElem?_eq_getElem _⟩
      have cq := (HZ0.out.mor gx) k q hq
      have cq2 : ∀ g, (more (more W0 gx) g).cell? (a.add k) = some (.int .i64 q) := fun g => ((HZ0.out.mor gx).mor g) k q hq
      have kn : (k : Int) < (n : Int) := by omega
      have hsn := satP_snoc 2000000 (l.take k) q
      have htk : l.take (k + 1) = l.take k ++ [q] := by rw [List.take_add_one, hq]; rfl
      rw [← htk] at hsn
      have HS := Lib.hid hsn
      have HT := Lib.hid htk
      have hbad : okP q = false → m = 11 := fun h => by
        rw [HM.out]; unfold merr
        rw [if_neg]
        intro ha
        have := List.all_eq_true.1 ha q (List.mem_of_getElem? hq)
        rw [h] at this; exact absurd this (by decide)
      have HBD : Hid (okP q = false → m = 11) := hbad
      clear hq hsn htk hbad hall
      generalize satP 2000000 (l.take k) = s at *
      by_cases h1 : 1000000 < q
      · have hm11 : m = 11 := HBD.out (by unfold okP; rw [decide_eq_false (by omega), Bool.false_and])
        subst hm11
        clear HM HBD HS HT
        go_wp2
        go_ret
        exact ⟨rfl, by have hB := HB.out; (repeat (first | with_reducible assumption | with_reducible exact Below.refl _ _ | with_reducible refine Below.drewN ?_ _ | with_reducible refine Below.drew ?_ | with_reducible refine Below.alloc ?_ (by first | omega | (simp; done) | (simp; omega)) _ | with_reducible refine Below.setCell ?_ (by first | omega | (simp; done) | (simp; omega)) _ | with_reducible refine below_more _ _ ?_ (by first | omega | (simp; done) | (simp; omega))))⟩
      · have C := Lib.hid (rprime_ok q (by omega))
        cases hp : mrfour q.toNat
        · rw [hp] at C
          have hm11 : m = 11 := HBD.out (by unfold okP; rw [hp, Bool.and_false])
          subst hm11
          clear HM HBD HS HT hp
          go_wp2_with (first | (go_at_call 54; with_reducible refine (C.out _).mono ?_; rintro e w5 ⟨rfl, hb5⟩; obtain ⟨g5, rfl⟩ := more_of_below hb5; clear hb5))
          go_ret
          exact ⟨rfl, by have hB := HB.out; (repeat (first | with_reducible assumption | with_reducible exact Below.refl _ _ | with_reducible refine Below.drewN ?_ _ | with_reducible refine Below.drew ?_ | with_reducible refine Below.alloc ?_ (by first | omega | (simp; done) | (simp; omega)) _ | with_reducible refine Below.setCell ?_ (by first | omega | (simp; done) | (simp; omega)) _ | with_reducible refine below_more _ _ ?_ (by first | omega | (simp; done) | (simp; omega))))⟩
        · rw [hp] at C
          have hok : okP q = true := by unfold okP; rw [hp, decide_eq_true (by omega)]; rfl
          obtain ⟨q2, q3⟩ := okP_two hok
          have m1 : 0 ≤ s * q := Int.mul_nonneg (by omega) (by omega)
          have m2 : s * q ≤ 2000000 * 1000000 := Int.mul_le_mul b2 q3 (by omega) (by omega)
          have HOK := Lib.hid hok
          clear hok hp
          go_wp2_with (first | (go_at_call 54; with_reducible refine (C.out _).mono ?_; rintro e w5 ⟨rfl, hb5⟩; obtain ⟨g5, rfl⟩ := more_of_below hb5; clear hb5))
          go_roundw
          case rel =>
            refine ⟨k + 1, by omega, by go_num, ?_, fun r hr => ?_, ext_mk (by (repeat (first | with_reducible assumption | with_reducible exact Below.refl _ _ | with_reducible refine Below.drewN ?_ _ | with_reducible refine Below.drew ?_ | with_reducible refine Below.alloc ?_ (by first | omega | (simp; done) | (simp; omega)) _ | with_reducible refine Below.setCell ?_ (by first | omega | (simp; done) | (simp; omega)) _ | with_reducible refine below_more _ _ ?_ (by first | omega | (simp; done) | (simp; omega)))))⟩
            · rw [HS.out, Int.min_def]
            · rw [HT.out] at hr
              rcases List.mem_append.1 hr with h | h
              · exact HK.out r h
              · rw [List.mem_singleton.1 h]; exact HOK.out
          case measure => simp [intOf]; omega
    · obtain rfl : k = n := by omega
      have et : l.take k = l := List.take_of_length_le (by rw [← HL.out]; exact Nat.le_refl _)
      rw [et] at HK hall b1 b2 ⊢
      have hprod := satP_eq (B := 2000000) (N := N) (by omega) (by omega) hall
      have hmm : m = if satP 2000000 l = N then 0 else 9 := by
        rw [HM.out]; unfold merr
        rw [if_pos (List.all_eq_true.2 HK.out)]
        by_cases h : prodZ l = N
        · rw [if_pos h, if_pos (hprod.2 h)]
        · rw [if_neg h, if_neg (fun hc => h (hprod.1 hc))]
      have HMM := Lib.hid hmm
      clear hmm hprod hall et HM HK
      generalize satP 2000000 l = s at *
      by_cases hs : s = N
      · have hm0 : m = 0 := by rw [HMM.out, if_pos hs]
        have e1 : (s != N) = false := by simpa using hs
        subst hm0
        clear HMM hs
        go_wp2_with (first | (go_at_call 21; with_reducible refine (CN.out _).mono ?_; rintro e w6 ⟨rfl, hb6⟩; obtain ⟨g6, rfl⟩ := more_of_below hb6; clear hb6))
        go_ret
        exact ⟨rfl, by have hB := HB.out; (repeat (first | with_reducible assumption | with_reducible exact Below.refl _ _ | with_reducible refine Below.drewN ?_ _ | with_reducible refine Below.drew ?_ | with_reducible refine Below.alloc ?_ (by first | omega | (simp; done) | (simp; omega)) _ | with_reducible refine Below.setCell ?_ (by first | omega | (simp; done) | (simp; omega)) _ | with_reducible refine below_more _ _ ?_ (by first | omega | (simp; done) | (simp; omega))))⟩
      · have hm0 : m = 9 := by rw [HMM.out, if_neg hs]
        have e1 : (s != N) = true := by simpa using hs
        subst hm0
        clear HMM hs
        go_wp2_with (first | (go_at_call 21; with_reducible refine (CN.out _).mono ?_; rintro e w6 ⟨rfl, hb6⟩; obtain ⟨g6, rfl⟩ := more_of_below hb6; clear hb6))
        go_ret
        exact ⟨rfl, by have hB := HB.out; (repeat (first | with_reducible assumption | with_reducible exact Below.refl _ _ | with_reducible refine Below.drewN ?_ _ | with_reducible refine Below.drew ?_ | with_reducible refine Below.alloc ?_ (by first | omega | (simp; done) | (simp; omega)) _ | with_reducible refine Below.setCell ?_ (by first | omega | (simp; done) | (simp; omega)) _ | with_reducible refine below_more _ _ ?_ (by first | omega | (simp; done) | (simp; omega))))⟩
end Go.Proofs.Ythajaabgcbjfkaa
