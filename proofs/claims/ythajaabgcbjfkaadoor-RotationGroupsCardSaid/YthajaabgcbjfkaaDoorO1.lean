/- Contract: open. Plain: what an opened element is. Contracts: open, of one element and of two; Divide. Contract: Divide. -/
import Derived.Test.YthajaabgcbjfkaaDoorS1
import Derived.Test.YthajaabgcbjfkaaDoorA1
import Derived.Test.YthajaabgcbjfkaaDoorH3
import Derived.Deep.RegionWith
import Derived.Deep.DrawnRows
import Derived.Deep.DeepCutAuto
namespace Go.Proofs.YthajaabgcbjfkaaDoor
open Go.RowKit

theorem read_ok (q : Qd) (w : World) (hq : q.okb = true) (h : q.rdok = true) :
    Calls Tryd.prog 57 #[.agg #[.int .i64 q.w, .int .i64 q.x, .int .i64 q.y, .int .i64 q.z, .int .i64 q.d]] w fun e w' => e = .returned (.tuple #[.agg #[.int .i64 q.rdv.w, .int .i64 q.rdv.x, .int .i64 q.rdv.y, .int .i64 q.rdv.z], .bool true]) ∧ Below w.heap.size w w' := by
  have := read_any q w hq
  simp only [h, if_true] at this
  exact this
theorem read_no (q : Qd) (w : World) (hq : q.okb = true) (h : q.rdok = false) :
    Calls Tryd.prog 57 #[.agg #[.int .i64 q.w, .int .i64 q.x, .int .i64 q.y, .int .i64 q.z, .int .i64 q.d]] w fun e w' => e = .returned (.tuple #[.agg #[.int .i64 0, .int .i64 0, .int .i64 0, .int .i64 0], .bool false]) ∧ Below w.heap.size w w' := by
  have := read_any q w hq
  simp only [h, Bool.false_eq_true, if_false] at this
  exact this

/-- The error of one element, as open tells it. -/
def Qd.oerr (q : Qd) : Int := if q.okb then (if q.rdok then (if q.rdv.nrm / 4 ≤ 1000000 then 0 else 8) else 14) else 3
def oerrL : List Qd → Int
  | [] => 0
  | q :: l => if q.oerr = 0 then oerrL l else q.oerr
theorem Qd.oerr_cases (q : Qd) : (q.okb = false ∧ q.oerr = 3) ∨ (q.okb = true ∧ q.rdok = false ∧ q.oerr = 14) ∨ (q.okb = true ∧ q.rdok = true ∧ ¬ q.rdv.nrm / 4 ≤ 1000000 ∧ q.oerr = 8) ∨ (q.okb = true ∧ q.rdok = true ∧ q.rdv.nrm / 4 ≤ 1000000 ∧ q.oerr = 0) := by
  cases h1 : q.okb
  · exact .inl ⟨rfl, by simp [oerr, h1]⟩
  cases h2 : q.rdok
  · exact .inr (.inl ⟨rfl, rfl, by simp [oerr, h1, h2]⟩)
  by_cases h3 : q.rdv.nrm / 4 ≤ 1000000
  · exact .inr (.inr (.inr ⟨rfl, rfl, h3, by simp [oerr, h1, h2, h3]⟩))
  · exact .inr (.inr (.inl ⟨rfl, rfl, h3, by simp [oerr, h1, h2, h3]⟩))
theorem oerrL_pre {l : List Qd} {k : Nat} {q : Qd} (hq : l[k]? = some q) (hp : ∀ x ∈ l.take k, x.oerr = 0) (h : q.oerr ≠ 0) : oerrL l = q.oerr := by
  induction l generalizing k with
  | nil => simp at hq
  | cons a l ih =>
    cases k with
    | zero => simp only [List.getElem?_cons_zero, Option.some.injEq] at hq; subst hq; exact if_neg h
    | succ k =>
      simp only [List.getElem?_cons_succ] at hq
      simp only [List.take_succ_cons, List.mem_cons, forall_eq_or_imp] at hp
      simp only [oerrL, hp.1, if_true]
      exact ih hq hp.2
theorem oerrL_all {l : List Qd} (hp : ∀ x ∈ l, x.oerr = 0) : oerrL l = 0 := by
  induction l with
  | nil => rfl
  | cons a l ih => simp only [List.mem_cons, forall_eq_or_imp] at hp; simp only [oerrL, hp.1, if_true]; exact ih hp.2
theorem Qd.rdv_nrm {q : Qd} (h : q.okb = true) : q.rdv.nrm ≤ 16000000000000 := by
  simp only [Qd.okb, decide_eq_true_eq] at h
  obtain ⟨hw, hx, hy, hz, hd⟩ := h
  have b1 := Qt.tdiv_bd (2 * q.w) q.d 2000000 (by omega) hd.1 (by omega)
  have b2 := Qt.tdiv_bd (2 * q.x) q.d 2000000 (by omega) hd.1 (by omega)
  have b3 := Qt.tdiv_bd (2 * q.y) q.d 2000000 (by omega) hd.1 (by omega)
  have b4 := Qt.tdiv_bd (2 * q.z) q.d 2000000 (by omega) hd.1 (by omega)
  have sq : ∀ u : Int, -2000000 ≤ u ∧ u ≤ 2000000 → u * u ≤ 4000000000000 := fun u h => by
    have : (2000000 - u) * (2000000 + u) ≥ 0 := Int.mul_nonneg (by omega) (by omega)
    grind
  have := sq _ b1; have := sq _ b2; have := sq _ b3; have := sq _ b4
  simp only [Qt.nrm, Qd.rdv]
  omega

/-- The five numbers of an element, in the slice at block g. -/
structure Q5 (w : World) (g k : Nat) (q : Qd) : Prop where
  c0 : w.cell? ⟨g, k * 5, none⟩ = some (.int .i64 q.w)
  c1 : w.cell? ⟨g, k * 5 + 1, none⟩ = some (.int .i64 q.x)
  c2 : w.cell? ⟨g, k * 5 + 2, none⟩ = some (.int .i64 q.y)
  c3 : w.cell? ⟨g, k * 5 + 3, none⟩ = some (.int .i64 q.z)
  c4 : w.cell? ⟨g, k * 5 + 4, none⟩ = some (.int .i64 q.d)
theorem Q5.below {w w' : World} {g k : Nat} {q : Qd} {B : Nat} (h : Q5 w g k q) (hb : Below B w w') (hg : g < B) : Q5 w' g k q :=
  ⟨by rw [hb.cell (by exact hg)]; exact h.c0, by rw [hb.cell (by exact hg)]; exact h.c1, by rw [hb.cell (by exact hg)]; exact h.c2, by rw [hb.cell (by exact hg)]; exact h.c3, by rw [hb.cell (by exact hg)]; exact h.c4⟩

def OInv (B : Nat) (w0 : World) (v : Value) (l : List Qt) (w : World) : Prop := OwnH w B v l ∧ Below B w0 w ∧ B ≤ w.heap.size

set_option maxRecDepth 10000 in
set_option maxHeartbeats 2000000 in
theorem open_any (l : List Qd) (g cap : Nat) (w : World) (hl : l.length ≤ 2) (hg : g < w.heap.size) (hc : ∀ k q, l[k]? = some q → Q5 w g k q) :
    Calls Tryd.prog 34 #[.slice (some ⟨g, 0, none⟩) l.length cap] w fun e w' => ∃ v, e = .returned (.tuple #[v, .int .i64 (oerrL l)]) ∧ (oerrL l = 0 → OwnH w' w.heap.size v (l.map Qd.rdv)) ∧ (oerrL l ≠ 0 → v = .slice none 0 0) ∧ Below w.heap.size w w' := by
  have HC : Hid (∀ k q, l[k]? = some q → Q5 w g k q) := hc
  clear hc
  obtain ⟨n, hn⟩ : ∃ n, n = l.length := ⟨_, rfl⟩
  have HN := Lib.hid hn
  rw [← hn] at hl ⊢
  clear hn
  go_enter Tryd.func34, Tryd.ntmps34
  go_wp2
  go_loopw [4, 12] (fun v i wr => ∃ k : Nat, k ≤ n ∧ i = .int .i64 k ∧ OInv w.heap.size w v ((l.take k).map Qd.rdv) wr ∧ ∀ x ∈ l.take k, x.oerr = 0) (fun _ i _ => n - (intOf i).toNat)
  case atStart => exact ⟨0, by omega, rfl, ⟨OwnH.nil _ _, Below.refl _ _, Nat.le_refl _⟩, by simp⟩
  case round =>
    obtain ⟨k, hk, rfl, ⟨hown, hB, hz⟩, hp⟩ := hrel
    by_cases hkn : k < n
    · obtain ⟨q, hq⟩ : ∃ q, l[k]? = some q := ⟨l[k]'(by rw [← HN.out]; exact hkn), List.getElem?_eq_getElem _⟩
      obtain ⟨e0, e1, e2, e3, e4⟩ := (HC.out k q hq).below hB hg
      have HQ := Lib.hid hq
      have HP := Lib.hid hp
      clear hq hp
      have HO := Lib.hid hown
      have HB := Lib.hid hB
      clear hown hB
      rcases q.oerr_cases with h | h | h | h
      · obtain ⟨h1, h2⟩ := h
        have herr : q.err = 3 := by simp [Qd.err, h1]
        have hL : oerrL l = 3 := by rw [oerrL_pre HQ.out HP.out (by rw [h2]; decide), h2]
        have HL := Lib.hid hL
        clear hL
        go_wp2_with (first | (go_at_call 56; with_reducible refine (checkQuat_any _ _).mono ?_; rintro e w2 ⟨rfl, hb2⟩; obtain ⟨g2, rfl⟩ := more_of_below hb2; clear hb2))
        have hB := HB.out
        refine bodyPost_ret (v := .tuple #[.slice none 0 0, .int .i64 3]) (by simp [results, Tryd.results34, go_sem]) rfl ⟨.slice none 0 0, by rw [HL.out], fun h => absurd (HL.out ▸ h) (by decide), fun _ => rfl, ?_⟩
        (repeat (first | with_reducible assumption | with_reducible exact Below.refl _ _ | with_reducible refine Below.drewN ?_ _ | with_reducible refine Below.drew ?_ | with_reducible refine Below.alloc ?_ (by first | omega | (simp; done) | (simp; omega)) _ | with_reducible refine Below.setCell ?_ (by first | omega | (simp; done) | (simp; omega)) _ | with_reducible refine below_more _ _ ?_ (by first | omega | (simp; done) | (simp; omega))))
      · obtain ⟨h1, h2, h3⟩ := h
        have herr : q.err = 0 := by simp [Qd.err, h1]
        have hL : oerrL l = 14 := by rw [oerrL_pre HQ.out HP.out (by rw [h3]; decide), h3]
        have HL := Lib.hid hL
        clear hL
        go_wp2_with (first | (go_at_call 56; with_reducible refine (checkQuat_any _ _).mono ?_; rintro e w2 ⟨rfl, hb2⟩; obtain ⟨g2, rfl⟩ := more_of_below hb2; clear hb2) | (go_at_call 57; with_reducible refine (read_no _ _ h1 h2).mono ?_; rintro e w3 ⟨rfl, hb3⟩; obtain ⟨g3, rfl⟩ := more_of_below hb3; clear hb3))
        have hB := HB.out
        refine bodyPost_ret (v := .tuple #[.slice none 0 0, .int .i64 14]) (by simp [results, Tryd.results34, go_sem]) rfl ⟨.slice none 0 0, by rw [HL.out], fun h => absurd (HL.out ▸ h) (by decide), fun _ => rfl, ?_⟩
        (repeat (first | with_reducible assumption | with_reducible exact Below.refl _ _ | with_reducible refine Below.drewN ?_ _ | with_reducible refine Below.drew ?_ | with_reducible refine Below.alloc ?_ (by first | omega | (simp; done) | (simp; omega)) _ | with_reducible refine Below.setCell ?_ (by first | omega | (simp; done) | (simp; omega)) _ | with_reducible refine below_more _ _ ?_ (by first | omega | (simp; done) | (simp; omega))))
      · obtain ⟨h1, h2, h3, h4⟩ := h
        have herr : q.err = 0 := by simp [Qd.err, h1]
        have hn := Qd.rdv_nrm h1
        have hL : oerrL l = 8 := by rw [oerrL_pre HQ.out HP.out (by rw [h4]; decide), h4]
        have HL := Lib.hid hL
        clear hL
        go_wp2_with (first | (go_at_call 56; with_reducible refine (checkQuat_any _ _).mono ?_; rintro e w2 ⟨rfl, hb2⟩; obtain ⟨g2, rfl⟩ := more_of_below hb2; clear hb2) | (go_at_call 57; with_reducible refine (read_ok _ _ h1 h2).mono ?_; rintro e w3 ⟨rfl, hb3⟩; obtain ⟨g3, rfl⟩ := more_of_below hb3; clear hb3) | (go_at_call 58; with_reducible refine (hnorm_any _ (by omega) _).mono ?_; rintro e w4 ⟨rfl, hb4⟩; obtain ⟨g4, rfl⟩ := more_of_below hb4; clear hb4))
        have hB := HB.out
        refine bodyPost_ret (v := .tuple #[.slice none 0 0, .int .i64 8]) (by simp [results, Tryd.results34, go_sem]) rfl ⟨.slice none 0 0, by rw [HL.out], fun h => absurd (HL.out ▸ h) (by decide), fun _ => rfl, ?_⟩
        (repeat (first | with_reducible assumption | with_reducible exact Below.refl _ _ | with_reducible refine Below.drewN ?_ _ | with_reducible refine Below.drew ?_ | with_reducible refine Below.alloc ?_ (by first | omega | (simp; done) | (simp; omega)) _ | with_reducible refine Below.setCell ?_ (by first | omega | (simp; done) | (simp; omega)) _ | with_reducible refine below_more _ _ ?_ (by first | omega | (simp; done) | (simp; omega))))
      · obtain ⟨h1, h2, h3, h4⟩ := h
        have herr : q.err = 0 := by simp [Qd.err, h1]
        have hn := Qd.rdv_nrm h1
        have h5 := Lib.hid h4
        clear h4
        go_wp2_with (first | (go_at_call 56; with_reducible refine (checkQuat_any _ _).mono ?_; rintro e w2 ⟨rfl, hb2⟩; obtain ⟨g2, rfl⟩ := more_of_below hb2; clear hb2) | (go_at_call 57; with_reducible refine (read_ok _ _ h1 h2).mono ?_; rintro e w3 ⟨rfl, hb3⟩; obtain ⟨g3, rfl⟩ := more_of_below hb3; clear hb3) | (go_at_call 58; with_reducible refine (hnorm_any _ (by omega) _).mono ?_; rintro e w4 ⟨rfl, hb4⟩; obtain ⟨g4, rfl⟩ := more_of_below hb4; clear hb4) | (at_builtin; go_must (refine append_hur (((((HO.out.alloc _).mor _).mor _).alloc _).mor _) (w0 := w) (by have hB := HB.out; (repeat (first | with_reducible assumption | with_reducible exact Below.refl _ _ | with_reducible refine Below.drewN ?_ _ | with_reducible refine Below.drew ?_ | with_reducible refine Below.alloc ?_ (by first | omega | (simp; done) | (simp; omega)) _ | with_reducible refine Below.setCell ?_ (by first | omega | (simp; done) | (simp; omega)) _ | with_reducible refine below_more _ _ ?_ (by first | omega | (simp; done) | (simp; omega))))) (by simp; omega) q.rdv (by simp; omega) rfl (.tmp 31) (.tmp 33) rfl (by rfl) (by rfl) (by simp) ?_); intro v2 w2 hown2 hB2 hz2))
        go_roundw
        case rel =>
          refine ⟨k + 1, by omega, by go_num, ⟨?_, hB2, hz2⟩, ?_⟩
          · rw [take_snoc' HQ.out, List.map_append]; exact hown2
          · rw [take_snoc' HQ.out]
            intro x hx
            rcases List.mem_append.1 hx with hx | hx
            · exact HP.out x hx
            · rw [List.mem_singleton.1 hx]; exact h5.out
        case measure => simp [intOf]; omega
    · obtain rfl : k = n := by omega
      have hL : oerrL l = 0 := oerrL_all (by have h := hp; rw [List.take_of_length_le (by rw [← HN.out]; exact Nat.le_refl _)] at h; exact h)
      have hown' : OwnH wr w.heap.size u4 (l.map Qd.rdv) := by have h := hown; rw [List.take_of_length_le (by rw [← HN.out]; exact Nat.le_refl _)] at h; exact h
      have HL := Lib.hid hL
      have HO := Lib.hid hown'
      clear hp hown hown' hL
      go_wp2
      refine bodyPost_ret (v := .tuple #[u4, .int .i64 0]) (by simp [results, Tryd.results34, go_sem]) rfl ⟨u4, by rw [HL.out], fun _ => HO.out, fun h => absurd HL.out h, hB⟩
end Go.Proofs.YthajaabgcbjfkaaDoor

namespace Go.Proofs.YthajaabgcbjfkaaDoor
open Go.RowKit

theorem Qd.oerr_zero {q : Qd} (h : q.oerr = 0) : q.okb = true ∧ q.rdok = true ∧ q.rdv.nrm / 4 ≤ 1000000 := by
  rcases q.oerr_cases with h' | h' | h' | h'
  · rw [h'.2] at h; exact absurd h (by decide)
  · rw [h'.2.2] at h; exact absurd h (by decide)
  · rw [h'.2.2.2] at h; exact absurd h (by decide)
  · exact ⟨h'.1, h'.2.1, h'.2.2.1⟩
theorem Qd.hz_rdv {q : Qd} (h : q.rdok = true) : Qt.Hz q.rdv := by
  simp only [Qd.rdok, Bool.and_eq_true, Bool.not_eq_true', bne_eq_false_iff_eq] at h
  rw [Qt.hz_iff]
  obtain ⟨_, _, _, _, h1, h2, h3⟩ := h
  rw [tmod2] at h1 h2 h3
  exact ⟨h1, h2, h3⟩
theorem oerrL_mem {l : List Qd} (h : oerrL l = 0) : ∀ q ∈ l, q.oerr = 0 := by
  induction l with
  | nil => simp
  | cons a l ih =>
    simp only [oerrL] at h
    split at h
    · intro q hq
      rcases List.mem_cons.1 hq with rfl | hq
      · assumption
      · exact ih h q hq
    · exact absurd h (by assumption)
end Go.Proofs.YthajaabgcbjfkaaDoor

namespace Go.Proofs.YthajaabgcbjfkaaDoor
open Go.RowKit

theorem q5_one (x : Qd) (W : World) : ∀ k q, [x][k]? = some q → Q5 (W.alloc (.cells #[.int .i64 x.w, .int .i64 x.x, .int .i64 x.y, .int .i64 x.z, .int .i64 x.d] 33)) W.heap.size k q := by
  intro k q hq
  match k with
  | 0 => simp only [List.getElem?_cons_zero, Option.some.injEq] at hq; subst hq; constructor <;> (rw [cell_of_row _ _ _ _ _ _ (heap_alloc_new W _)]; rfl)
  | k + 1 => simp at hq
theorem q5_two (x y : Qd) (W : World) : ∀ k q, [x, y][k]? = some q → Q5 (W.alloc (.cells #[.int .i64 x.w, .int .i64 x.x, .int .i64 x.y, .int .i64 x.z, .int .i64 x.d, .int .i64 y.w, .int .i64 y.x, .int .i64 y.y, .int .i64 y.z, .int .i64 y.d] 33)) W.heap.size k q := by
  intro k q hq
  match k with
  | 0 => simp only [List.getElem?_cons_zero, Option.some.injEq] at hq; subst hq; constructor <;> (rw [cell_of_row _ _ _ _ _ _ (heap_alloc_new W _)]; rfl)
  | 1 => simp only [List.getElem?_cons_succ, List.getElem?_cons_zero, Option.some.injEq] at hq; subst hq; constructor <;> (rw [cell_of_row _ _ _ _ _ _ (heap_alloc_new W _)]; rfl)
  | k + 2 => simp at hq
theorem open_err1 (x : Qd) (W : World) (h : oerrL [x] ≠ 0) {m : Nat} (hm : m = W.heap.size) :
    Calls Tryd.prog 34 #[.slice (some ⟨m, 0, none⟩) 1 1] (W.alloc (.cells #[.int .i64 x.w, .int .i64 x.x, .int .i64 x.y, .int .i64 x.z, .int .i64 x.d] 33)) fun e w' => e = .returned (.tuple #[.slice none 0 0, .int .i64 (oerrL [x])]) ∧ Below (W.alloc (.cells #[.int .i64 x.w, .int .i64 x.x, .int .i64 x.y, .int .i64 x.z, .int .i64 x.d] 33)).heap.size (W.alloc (.cells #[.int .i64 x.w, .int .i64 x.x, .int .i64 x.y, .int .i64 x.z, .int .i64 x.d] 33)) w' := by
  subst hm
  refine (open_any [x] W.heap.size 1 _ (by simp) (by simp) (q5_one x W)).mono ?_
  rintro e w' ⟨v, rfl, _, h2, h3⟩
  rw [h2 h]
  exact ⟨rfl, h3⟩
theorem open_err2 (x y : Qd) (W : World) (h : oerrL [x, y] ≠ 0) {m : Nat} (hm : m = W.heap.size) :
    Calls Tryd.prog 34 #[.slice (some ⟨m, 0, none⟩) 2 2] (W.alloc (.cells #[.int .i64 x.w, .int .i64 x.x, .int .i64 x.y, .int .i64 x.z, .int .i64 x.d, .int .i64 y.w, .int .i64 y.x, .int .i64 y.y, .int .i64 y.z, .int .i64 y.d] 33)) fun e w' => e = .returned (.tuple #[.slice none 0 0, .int .i64 (oerrL [x, y])]) ∧ Below (W.alloc (.cells #[.int .i64 x.w, .int .i64 x.x, .int .i64 x.y, .int .i64 x.z, .int .i64 x.d, .int .i64 y.w, .int .i64 y.x, .int .i64 y.y, .int .i64 y.z, .int .i64 y.d] 33)).heap.size (W.alloc (.cells #[.int .i64 x.w, .int .i64 x.x, .int .i64 x.y, .int .i64 x.z, .int .i64 x.d, .int .i64 y.w, .int .i64 y.x, .int .i64 y.y, .int .i64 y.z, .int .i64 y.d] 33)) w' := by
  subst hm
  refine (open_any [x, y] W.heap.size 2 _ (by simp) (by simp) (q5_two x y W)).mono ?_
  rintro e w' ⟨v, rfl, _, h2, h3⟩
  rw [h2 h]
  exact ⟨rfl, h3⟩

/-- The four numbers of element k of the slice at block g. -/
structure H4 (w : World) (g k : Nat) (q : Qt) : Prop where
  c0 : w.cell? ⟨g, k * 4, none⟩ = some (.int .i64 q.w)
  c1 : w.cell? ⟨g, k * 4 + 1, none⟩ = some (.int .i64 q.x)
  c2 : w.cell? ⟨g, k * 4 + 2, none⟩ = some (.int .i64 q.y)
  c3 : w.cell? ⟨g, k * 4 + 3, none⟩ = some (.int .i64 q.z)
theorem OwnH.h4 {W : World} {base g cap n : Nat} {l : List Qt} (h : OwnH W base (.slice (some ⟨g, 0, none⟩) n cap) l) {k : Nat} {q : Qt} (hq : l[k]? = some q) : H4 W g k q := by
  obtain ⟨h0, h1, h2, h3⟩ := h.at_ hq
  exact ⟨h0, h1, h2, h3⟩

theorem H4.mor {w : World} {g k : Nat} {q : Qt} (h : H4 w g k q) (hg : g < w.heap.size) (gx : Nat × Array Obj) : H4 (more w gx) g k q :=
  ⟨by rw [cell?_more _ _ _ hg]; exact h.c0, by rw [cell?_more _ _ _ hg]; exact h.c1, by rw [cell?_more _ _ _ hg]; exact h.c2, by rw [cell?_more _ _ _ hg]; exact h.c3⟩
theorem H4.two {w : World} {g k : Nat} {q : Qt} (h : H4 w g k q) (hg : g < w.heap.size) (gx gy : Nat × Array Obj) : H4 (more (more w gx) gy) g k q :=
  (h.mor hg gx).mor (Nat.lt_of_lt_of_le hg (size_more w gx)) gy
theorem open_ok1 (x : Qd) (W : World) (h : oerrL [x] = 0) {m : Nat} (hm : m = W.heap.size) :
    Calls Tryd.prog 34 #[.slice (some ⟨m, 0, none⟩) 1 1] (W.alloc (.cells #[.int .i64 x.w, .int .i64 x.x, .int .i64 x.y, .int .i64 x.z, .int .i64 x.d] 33)) fun e w' => ∃ g cap, e = .returned (.tuple #[.slice (some ⟨g, 0, none⟩) 1 cap, .int .i64 0]) ∧ (g < w'.heap.size ∧ H4 w' g 0 x.rdv) ∧ Below (W.alloc (.cells #[.int .i64 x.w, .int .i64 x.x, .int .i64 x.y, .int .i64 x.z, .int .i64 x.d] 33)).heap.size (W.alloc (.cells #[.int .i64 x.w, .int .i64 x.x, .int .i64 x.y, .int .i64 x.z, .int .i64 x.d] 33)) w' := by
  subst hm
  refine (open_any [x] W.heap.size 1 _ (by simp) (by simp) (q5_one x W)).mono ?_
  rintro e w' ⟨v, rfl, h1, _, h3⟩
  obtain ⟨g, cap, rfl, hg1, hg2, hrow⟩ := (h1 h).slice (by simp)
  rw [h]
  exact ⟨g, cap, rfl, ⟨hg2, (h1 h).h4 rfl⟩, h3⟩
theorem open_ok2 (x y : Qd) (W : World) (h : oerrL [x, y] = 0) {m : Nat} (hm : m = W.heap.size) :
    Calls Tryd.prog 34 #[.slice (some ⟨m, 0, none⟩) 2 2] (W.alloc (.cells #[.int .i64 x.w, .int .i64 x.x, .int .i64 x.y, .int .i64 x.z, .int .i64 x.d, .int .i64 y.w, .int .i64 y.x, .int .i64 y.y, .int .i64 y.z, .int .i64 y.d] 33)) fun e w' => ∃ g cap, e = .returned (.tuple #[.slice (some ⟨g, 0, none⟩) 2 cap, .int .i64 0]) ∧ (g < w'.heap.size ∧ H4 w' g 0 x.rdv ∧ H4 w' g 1 y.rdv) ∧ Below (W.alloc (.cells #[.int .i64 x.w, .int .i64 x.x, .int .i64 x.y, .int .i64 x.z, .int .i64 x.d, .int .i64 y.w, .int .i64 y.x, .int .i64 y.y, .int .i64 y.z, .int .i64 y.d] 33)).heap.size (W.alloc (.cells #[.int .i64 x.w, .int .i64 x.x, .int .i64 x.y, .int .i64 x.z, .int .i64 x.d, .int .i64 y.w, .int .i64 y.x, .int .i64 y.y, .int .i64 y.z, .int .i64 y.d] 33)) w' := by
  subst hm
  refine (open_any [x, y] W.heap.size 2 _ (by simp) (by simp) (q5_two x y W)).mono ?_
  rintro e w' ⟨v, rfl, h1, _, h3⟩
  obtain ⟨g, cap, rfl, hg1, hg2, hrow⟩ := (h1 h).slice (by simp)
  rw [h]
  exact ⟨g, cap, rfl, ⟨hg2, (h1 h).h4 rfl, (h1 h).h4 rfl⟩, h3⟩
end Go.Proofs.YthajaabgcbjfkaaDoor

namespace Go.Proofs.YthajaabgcbjfkaaDoor
open Go.RowKit
attribute [local go_sem ↓] Go.wp_at_zero Go.wp_at_succ

theorem more_of_below' {B : Nat} {W w : World} (h : Below B W w) (hB : B = W.heap.size) : ∃ g, w = more W g := by subst hB; exact more_of_below h

set_option maxRecDepth 10000 in
set_option maxHeartbeats 2000000 in
theorem divide_err (x y : Qd) (w : World) (h : oerrL [x, y] ≠ 0) :
    Calls Tryd.prog 12 #[.agg #[.int .i64 x.w, .int .i64 x.x, .int .i64 x.y, .int .i64 x.z, .int .i64 x.d], .agg #[.int .i64 y.w, .int .i64 y.x, .int .i64 y.y, .int .i64 y.z, .int .i64 y.d]] w fun e w' => e = .returned (.tuple #[.agg #[.int .i64 0, .int .i64 0, .int .i64 0, .int .i64 0, .int .i64 0, .int .i64 0, .int .i64 0, .int .i64 0, .int .i64 0, .int .i64 0], .int .i64 (oerrL [x, y])]) ∧ Below w.heap.size w w' := by
  go_enter Tryd.func12, Tryd.ntmps12
  go_wp2_with (first | (go_at_call 34; with_reducible refine (open_err2 x y _ h (by simp)).mono ?_; rintro e w1 ⟨rfl, hb1⟩; obtain ⟨g1, rfl⟩ := more_of_below hb1; clear hb1))
  refine bodyPost_ret (v := .tuple #[.agg #[.int .i64 0, .int .i64 0, .int .i64 0, .int .i64 0, .int .i64 0, .int .i64 0, .int .i64 0, .int .i64 0, .int .i64 0, .int .i64 0], .int .i64 (oerrL [x, y])]) (by simp [results, Tryd.results12, go_sem]) rfl ⟨rfl, by (repeat (first | with_reducible assumption | with_reducible exact Below.refl _ _ | with_reducible refine Below.drewN ?_ _ | with_reducible refine Below.drew ?_ | with_reducible refine Below.alloc ?_ (by first | omega | (simp; done) | (simp; omega)) _ | with_reducible refine Below.setCell ?_ (by first | omega | (simp; done) | (simp; omega)) _ | with_reducible refine below_more _ _ ?_ (by first | omega | (simp; done) | (simp; omega))))⟩

set_option maxRecDepth 10000 in
set_option maxHeartbeats 2000000 in
theorem divide_zero (x y : Qd) (w : World) (h : oerrL [x, y] = 0) (hz : y.rdv.eqb ⟨0, 0, 0, 0⟩ = true) :
    Calls Tryd.prog 12 #[.agg #[.int .i64 x.w, .int .i64 x.x, .int .i64 x.y, .int .i64 x.z, .int .i64 x.d], .agg #[.int .i64 y.w, .int .i64 y.x, .int .i64 y.y, .int .i64 y.z, .int .i64 y.d]] w fun e w' => e = .returned (.tuple #[.agg #[.int .i64 0, .int .i64 0, .int .i64 0, .int .i64 0, .int .i64 0, .int .i64 0, .int .i64 0, .int .i64 0, .int .i64 0, .int .i64 0], .int .i64 10]) ∧ Below w.heap.size w w' := by
  go_enter Tryd.func12, Tryd.ntmps12
  go_wp2_with (first | (go_at_call 34; with_reducible refine (open_ok2 x y _ h (by simp)).mono ?_; rintro e w1 ⟨g, cap, rfl, ⟨hg, hx, ⟨c0, c1, c2, c3⟩⟩, hb1⟩; obtain ⟨g1, rfl⟩ := more_of_below hb1; clear hb1) | (go_at_call 35; with_reducible refine (hzero_any _ _).mono ?_; rintro e w2 ⟨rfl, hb2⟩; obtain ⟨g2, rfl⟩ := more_of_below hb2; clear hb2))
  refine bodyPost_ret (v := .tuple #[.agg #[.int .i64 0, .int .i64 0, .int .i64 0, .int .i64 0, .int .i64 0, .int .i64 0, .int .i64 0, .int .i64 0, .int .i64 0, .int .i64 0], .int .i64 10]) (by simp [results, Tryd.results12, go_sem]) rfl ⟨rfl, by (repeat (first | with_reducible assumption | with_reducible exact Below.refl _ _ | with_reducible refine Below.drewN ?_ _ | with_reducible refine Below.drew ?_ | with_reducible refine Below.alloc ?_ (by first | omega | (simp; done) | (simp; omega)) _ | with_reducible refine Below.setCell ?_ (by first | omega | (simp; done) | (simp; omega)) _ | with_reducible refine below_more _ _ ?_ (by first | omega | (simp; done) | (simp; omega))))⟩

set_option maxRecDepth 10000 in
set_option maxHeartbeats 4000000 in
theorem divide_ok (x y : Qd) (w : World) (h : oerrL [x, y] = 0) (hz : y.rdv.eqb ⟨0, 0, 0, 0⟩ = false) (q r : Qt) (iq : q.InR) (ir : r.InR)
    (hD : ∀ w, Calls Tryd.prog 36 #[.agg #[.int .i64 x.rdv.w, .int .i64 x.rdv.x, .int .i64 x.rdv.y, .int .i64 x.rdv.z], .agg #[.int .i64 y.rdv.w, .int .i64 y.rdv.x, .int .i64 y.rdv.y, .int .i64 y.rdv.z]] w fun e w' => e = .returned (.tuple #[.agg #[.int .i64 q.w, .int .i64 q.x, .int .i64 q.y, .int .i64 q.z], .agg #[.int .i64 r.w, .int .i64 r.x, .int .i64 r.y, .int .i64 r.z]]) ∧ Below w.heap.size w w') :
    Calls Tryd.prog 12 #[.agg #[.int .i64 x.w, .int .i64 x.x, .int .i64 x.y, .int .i64 x.z, .int .i64 x.d], .agg #[.int .i64 y.w, .int .i64 y.x, .int .i64 y.y, .int .i64 y.z, .int .i64 y.d]] w fun e w' => e = .returned (.tuple #[.agg #[.int .i64 q.toQ.w, .int .i64 q.toQ.x, .int .i64 q.toQ.y, .int .i64 q.toQ.z, .int .i64 q.toQ.d, .int .i64 r.toQ.w, .int .i64 r.toQ.x, .int .i64 r.toQ.y, .int .i64 r.toQ.z, .int .i64 r.toQ.d], .int .i64 0]) ∧ Below w.heap.size w w' := by
  go_enter Tryd.func12, Tryd.ntmps12
  go_upto_region 6 with (first | (go_at_call 34; with_reducible refine (open_ok2 x y _ h (by simp)).mono ?_; rintro e w1 ⟨g, cap, rfl, ⟨hg, hx, hy⟩, hb1⟩; obtain ⟨g1, rfl⟩ := more_of_below hb1; clear hb1; simp only [size_more_eq, World.size_alloc] at hg; obtain ⟨c0, c1, c2, c3⟩ := hy) | (go_at_call 35; with_reducible refine (hzero_any _ _).mono ?_; rintro e w2 ⟨rfl, hb2⟩; obtain ⟨g2, rfl⟩ := more_of_below hb2; clear hb2))
  obtain ⟨hx0, hx1, hx2, hx3⟩ := hx
  go_cut [8, 9] (fun s8 s9 wx => Below (w.heap.size + 4) ((((w.alloc (.cells #[.int .i64 x.w, .int .i64 x.x, .int .i64 x.y, .int .i64 x.z, .int .i64 x.d] 33)).alloc (.cells #[.int .i64 y.w, .int .i64 y.x, .int .i64 y.y, .int .i64 y.z, .int .i64 y.d] 33)).alloc (.cells #[.int .i64 0, .int .i64 0, .int .i64 0, .int .i64 0, .int .i64 0, .int .i64 0, .int .i64 0, .int .i64 0, .int .i64 0, .int .i64 0] 40)).alloc (.cells #[.int .i64 x.w, .int .i64 x.x, .int .i64 x.y, .int .i64 x.z, .int .i64 x.d, .int .i64 y.w, .int .i64 y.x, .int .i64 y.y, .int .i64 y.z, .int .i64 y.d] 33)) wx ∧ ∃ b8 b9, s8 = .pointer (some ⟨b8, 0, none⟩) ∧ s9 = .pointer (some ⟨b9, 0, none⟩) ∧ H4 wx b8 0 q ∧ H4 wx b9 0 r ∧ b8 < wx.heap.size ∧ b9 < wx.heap.size)
  case first =>
    go_region_with ((go_at_call 36; with_reducible refine (hD _).mono ?_; rintro e w' ⟨rfl, hb9⟩; obtain ⟨g9, rfl⟩ := more_of_below hb9; clear hb9))
    all_goals (clear hx0 hx1 hx2 hx3 c0 c1 c2 c3 hD)
    all_goals (go_wp2_with fail; go_meet; refine ⟨by (repeat (first | with_reducible assumption | with_reducible exact Below.refl _ _ | with_reducible refine Below.drewN ?_ _ | with_reducible refine Below.drew ?_ | with_reducible refine Below.alloc ?_ (by first | omega | (simp; done) | (simp; omega)) _ | with_reducible refine Below.setCell ?_ (by first | omega | (simp; done) | (simp; omega)) _ | with_reducible refine below_more _ _ ?_ (by first | omega | (simp; done) | (simp; omega)))), _, _, rfl, rfl, ⟨?_, ?_, ?_, ?_⟩, ⟨?_, ?_, ?_, ?_⟩, ?_, ?_⟩)
    all_goals (first | (go_simp; done) | (simp only [size_more_eq, World.size_alloc, World.size_setCell]; omega) | (simp; omega))
  case rest =>
    clear hx0 hx1 hx2 hx3 c0 c1 c2 c3 hD
    obtain ⟨hb, b8, b9, rfl, rfl, ⟨c0, c1, c2, c3⟩, ⟨d0, d1, d2, d3⟩, l8, l9⟩ := hcut
    obtain ⟨gc, rfl⟩ := more_of_below' hb (by simp)
    simp only [size_more_eq, World.size_alloc] at l8 l9
    go_wp2_with fail
    (refine wp_region_calm_tail 5 (Ext _) (by kernel_rfl) (by kernel_rfl) (Ext.start _) ?_; simp only [List.take_succ_cons, List.take_zero, List.drop_succ_cons, List.drop_zero]; (repeat (refine wpQuiet_step (fun K hK => ?_); go_simp; (try go_bits); apply Exists.intro; refine ⟨fun w' hw' => ?_, hK _ ?_⟩; (focus (first | with_reducible exact rfl | (go_at_call 37; (first | with_reducible exact Ext.call hw' (quat_in _ iq _) | with_reducible exact Ext.call hw' (quat_in _ ir _))) | (obtain ⟨gx, rfl⟩ := more_of_below (Ext.below hw'); go_simp; exact rfl))); clear hK K)); refine wpQuiet_nil ?_; intro w4 hw4; have hb4 := Ext.below hw4; clear hw4; obtain ⟨g4, rfl⟩ := more_of_below hb4; clear hb4)
    go_wp2
    refine bodyPost_ret (v := .tuple #[.agg #[.int .i64 q.toQ.w, .int .i64 q.toQ.x, .int .i64 q.toQ.y, .int .i64 q.toQ.z, .int .i64 q.toQ.d, .int .i64 r.toQ.w, .int .i64 r.toQ.x, .int .i64 r.toQ.y, .int .i64 r.toQ.z, .int .i64 r.toQ.d], .int .i64 0]) (by simp [results, Tryd.results12, go_sem]) rfl ⟨rfl, ?_⟩
    (repeat (first | with_reducible assumption | with_reducible exact Below.refl _ _ | with_reducible refine Below.drewN ?_ _ | with_reducible refine Below.drew ?_ | with_reducible refine Below.alloc ?_ (by first | omega | (simp; done) | (simp; omega)) _ | with_reducible refine Below.setCell ?_ (by first | omega | (simp; done) | (simp; omega)) _ | with_reducible refine below_more _ _ ?_ (by first | omega | (simp; done) | (simp; omega))))
end Go.Proofs.YthajaabgcbjfkaaDoor
