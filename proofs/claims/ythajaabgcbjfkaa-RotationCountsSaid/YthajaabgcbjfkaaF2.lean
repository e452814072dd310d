/- The counter's map: at a number it holds a row of the canonical quaternions of this norm. -/
import Derived.Test.YthajaabgcbjfkaaX6
import Derived.Maps.Own
import Derived.Maps.OwnOps
import Derived.Maps.OwnSet
import Derived.Maps.Views
import Derived.Maps.AppendAt
namespace Go.Proofs.Ythajaabgcbjfkaa
open Go.RowKit Go.Maps

/-- How an element of the map reads: as itself. -/
def RV (v : Value) : Option (DataW Value × List MemPlace) := some (.held v, [])
theorem keyI : Keyed Try.prog 3 := int_keyed Try.underlying3
/-- A row of quaternions, in another block than B. -/
def RowB (w : World) (B : Nat) (v : Value) (L : List Qt) : Prop := ∃ g cap, v = .slice (some ⟨g, 0, none⟩) L.length cap ∧ g ≠ B ∧ g < w.heap.size ∧ ∀ k q, L[k]? = some q → H4 w g k q
theorem H4.grown {w w' : World} {B g k : Nat} {q : Qt} (h : H4 w g k q) (hg : w.grownBy w' (some B)) (hne : g ≠ B) : H4 w' g k q :=
  ⟨hg.cell h.c0 (by simpa using hne), hg.cell h.c1 (by simpa using hne), hg.cell h.c2 (by simpa using hne), hg.cell h.c3 (by simpa using hne)⟩
theorem RowB.grown {w w' : World} {B : Nat} {v : Value} {L : List Qt} (h : RowB w B v L) (hg : w.grownBy w' (some B)) : RowB w' B v L := by
  obtain ⟨g, cap, e, hne, hlt, h⟩ := h
  exact ⟨g, cap, e, hne, Nat.lt_of_lt_of_le hlt hg.size, fun k q hq => (h k q hq).grown hg hne⟩
theorem grown_of_below {w w' : World} {row : Option Nat} (h : Below w.heap.size w w') : w.grownBy w' row :=
  ⟨h.os, h.tape, h.output, h.size, fun k hk _ => h.block k hk⟩
/-- What the map holds. -/
def GoodD (w : World) (B : Nat) (D : DataW Value) : Prop := ∃ L : List (Lit × DataW Value), D = .map L ∧ ∀ e ∈ L, ∃ p : Nat, p ≤ 7 ∧ e.1 = .int .i64 p ∧ ∃ v, e.2 = .held v ∧ RowB w B v (ofNormC p)
theorem GoodD.grown {w w' : World} {B : Nat} {D : DataW Value} (h : GoodD w B D) (hg : w.grownBy w' (some B)) : GoodD w' B D := by
  obtain ⟨L, e, h⟩ := h
  refine ⟨L, e, fun x hx => ?_⟩
  obtain ⟨p, h1, h2, v, h3, h4⟩ := h x hx
  exact ⟨p, h1, h2, v, h3, h4.grown hg⟩
def MapI (B : Nat) (w : World) : Prop := ∃ D, w.ownsMap Try.prog 3 RV B 8 D ∧ GoodD w B D
theorem MapI.lt {B : Nat} {w : World} (h : MapI B w) : B < w.heap.size := by obtain ⟨D, h, _⟩ := h; exact h.lt
theorem MapI.below {B : Nat} {w w' : World} (h : MapI B w) (hb : Below w.heap.size w w') : MapI B w' := by
  obtain ⟨D, h1, h2⟩ := h
  exact ⟨D, h1.kept (grown_of_below (row := none) hb) (by simp), h2.grown (grown_of_below hb)⟩
theorem mapI_made (w : World) : MapI w.heap.size (w.alloc (.map #[] 0)) :=
  ⟨.map [], (World.ownsMap_made _ _ _ _).mono (by omega), [], rfl, fun e he => by simp at he⟩
/-- A look-up: nil, or the row. -/
theorem MapI.look {B : Nat} {w : World} (h : MapI B w) (p : Nat) (hp : p ≤ 7) : ∃ v, (Instr.lookup 136 (.map (some B)) (.int .i64 p) false).run Try.prog w = .ok v w ∧ (v = .slice none 0 0 ∨ RowB w B v (ofNormC p)) := by
  obtain ⟨D, h1, L, rfl, h2⟩ := h
  obtain ⟨v, ps, hrun, hv⟩ := h1.lookup (t := 136) (e := 91) keyI Try.underlying136 (z := .slice none 0 0) (by kernel_rfl) (zd := .held (.slice none 0 0)) (zp := []) rfl (keyOf_int_mk Try.underlying3 (a := (p : Int)) (WalkArith.wf_i64 (by omega)))
  refine ⟨v, hrun, ?_⟩
  unfold RV at hv
  simp only [Option.some.injEq, Prod.mk.injEq] at hv
  replace hv := hv.1
  unfold DataW.atKey at hv
  simp only at hv
  split at hv
  · rename_i e he
    obtain ⟨p', h3, h4, v', h5, h6⟩ := h2 e (List.mem_of_find?_eq_some he)
    have hs := List.find?_some he
    simp only [h4] at hs
    have : p' = p := by
      simp [Lit.sameKey] at hs
      omega
    subst this
    rw [h5] at hv
    cases hv
    exact .inr h6
  · cases hv
    exact .inl rfl
theorem nodup_len : ∀ (n : Nat) (l : List Nat), l.Nodup → (∀ x ∈ l, x < n) → l.length ≤ n
  | 0, l, _, h => by
    cases l with
    | nil => exact Nat.le_refl _
    | cons a l => exact absurd (h a (List.mem_cons_self ..)) (by omega)
  | n + 1, l, hn, h => by
    have := nodup_len n (l.erase n) (hn.erase n) (fun x hx => by
      have h1 := (List.Nodup.mem_erase_iff hn).1 hx
      have := h x h1.2
      omega)
    rw [List.length_erase] at this
    split at this <;> omega
theorem small_keys {L : List (Lit × DataW Value)} (h1 : L.Pairwise (fun p q => p.1 ≠ q.1)) (h2 : ∀ e ∈ L, ∃ p : Nat, p ≤ 7 ∧ e.1 = .int .i64 p) : L.length ≤ 8 := by
  have h3 : (L.map fun e => match e.1 with | .int _ z => z.toNat | _ => 0).Nodup := by
    unfold List.Nodup
    rw [List.pairwise_map]
    refine List.Pairwise.imp_of_mem ?_ h1
    intro a b ha hb hne
    obtain ⟨p, _, hp⟩ := h2 a ha
    obtain ⟨q, _, hq⟩ := h2 b hb
    rw [hp, hq] at hne ⊢
    intro e
    simp only [Int.toNat_natCast] at e
    exact hne (by rw [e])
  have h4 := nodup_len 8 _ h3 (fun x hx => by
    obtain ⟨e, he, rfl⟩ := List.mem_map.1 hx
    obtain ⟨p, h5, h6⟩ := h2 e he
    rw [h6]
    simp only [Int.toNat_natCast]
    omega)
  rwa [List.length_map] at h4
theorem mem_ins {x y : Lit × DataW Value} : ∀ {l : List (Lit × DataW Value)}, y ∈ DataW.insert x l → y = x ∨ y ∈ l
  | [], h => by simp [DataW.insert] at h; exact .inl h
  | z :: l, h => by
    unfold DataW.insert at h
    split at h
    · rcases List.mem_cons.1 h with h | h
      · exact .inl h
      · exact .inr h
    · rcases List.mem_cons.1 h with h | h
      · exact .inr (h ▸ List.mem_cons_self ..)
      · rcases mem_ins h with h | h
        · exact .inl h
        · exact .inr (List.mem_cons_of_mem _ h)
/-- Behind a store of a row. -/
theorem MapI.put {B : Nat} {w w' : World} {D : DataW Value} {p : Nat} {v : Value} (hg : GoodD w B D) (hp : p ≤ 7) (hv : RowB w B v (ofNormC p)) (ho : w'.ownsMap Try.prog 3 RV B 9 (D.put (.int .i64 p) (.held v))) (hw : w.grownBy w' (some B)) : MapI B w' := by
  obtain ⟨L, rfl, h2⟩ := hg
  have hgood : ∀ e ∈ DataW.insert (Lit.int .i64 p, .held v) (L.filter fun q => !q.1.sameKey (.int .i64 p)), ∃ p : Nat, p ≤ 7 ∧ e.1 = .int .i64 p ∧ ∃ v, e.2 = .held v ∧ RowB w' B v (ofNormC p) := fun e he => by
    rcases mem_ins he with rfl | he
    · exact ⟨p, hp, rfl, v, rfl, hv.grown hw⟩
    · obtain ⟨p', h3, h4, v', h5, h6⟩ := h2 e (List.mem_filter.1 he).1
      exact ⟨p', h3, h4, v', h5, h6.grown hw⟩
  refine ⟨_, ?_, _, rfl, hgood⟩
  obtain ⟨L', e', htidy⟩ := ho.tidy keyI
  have e2 : L' = DataW.insert (Lit.int .i64 p, .held v) (L.filter fun q => !q.1.sameKey (.int .i64 p)) := by
    have : DataW.map (DataW.insert (Lit.int .i64 p, .held v) (L.filter fun q => !q.1.sameKey (.int .i64 p))) = .map L' := e'
    cases this; rfl
  rw [e2] at htidy
  have hlen := small_keys htidy (fun e he => by obtain ⟨p, h1, h2, _⟩ := hgood e he; exact ⟨p, h1, h2⟩)
  obtain ⟨es, clock, hb, F, hs, hD⟩ := ho
  refine ⟨es, clock, hb, F, ?_, hD⟩
  have e3 : DataW.map (DataW.insert (Lit.int .i64 p, .held v) (L.filter fun q => !q.1.sameKey (.int .i64 p))) = .map ((es.toList.map (WideElems.rg Try.prog 3 RV)).foldr DataW.insert []) := hD
  have e4 : DataW.insert (Lit.int .i64 p, .held v) (L.filter fun q => !q.1.sameKey (.int .i64 p)) = (es.toList.map (WideElems.rg Try.prog 3 RV)).foldr DataW.insert [] := by
    injection e3
  rw [e4, length_sorted] at hlen
  simpa using hlen
/-- .. a look-up at the same number finds the row. -/
theorem look_put {B : Nat} {w0 w : World} {D : DataW Value} {p : Nat} {v : Value} {n : Nat} (hD : GoodD w0 B D) (hp : p ≤ 7) (ho : w.ownsMap Try.prog 3 RV B n (D.put (.int .i64 p) (.held v))) :
    (Instr.lookup 136 (.map (some B)) (.int .i64 p) false).run Try.prog w = .ok v w := by
  obtain ⟨L, rfl, _⟩ := hD
  obtain ⟨u, ps, hrun, hv⟩ := ho.lookup (t := 136) (e := 91) keyI Try.underlying136 (z := .slice none 0 0) (by kernel_rfl) (zd := .held (.slice none 0 0)) (zp := []) rfl (keyOf_int_mk Try.underlying3 (a := (p : Int)) (WalkArith.wf_i64 (by omega)))
  rw [atKey_put_same (k := Lit.int .i64 (p : Int)) ⟨L, rfl⟩ (show WideAt.IsKeyLit (Lit.int .i64 (p : Int)) from trivial)] at hv
  unfold RV at hv
  simp only [Option.some.injEq, Prod.mk.injEq, DataW.held.injEq] at hv
  rw [hv.1] at hrun
  exact hrun
/-- What a region that counts may lean on: but for the map's block all is as it was. -/
def CM (B : Nat) (W w : World) : Prop := W.grownBy w (some B) ∧ MapI B w
theorem CM.start {B : Nat} {W : World} (h : MapI B W) : CM B W W.drew :=
  ⟨grown_of_below ((Below.refl _ _).drew), h.below ((Below.refl _ _).drew)⟩
theorem CM.refl {B : Nat} {W : World} (h : MapI B W) : CM B W W := ⟨grown_of_below (Below.refl _ _), h⟩
theorem CM.cell {B : Nat} {W w : World} (h : CM B W w) {b o : Nat} {v : Value} (hc : W.cell? ⟨b, o, none⟩ = some v) (hne : b ≠ B) : w.cell? ⟨b, o, none⟩ = some v := h.1.cell hc (by simpa using hne)
theorem CM.trans {B : Nat} {W w w' : World} (h : CM B W w) (k : CM B w w') : CM B W w' := ⟨h.1.trans k.1, k.2⟩
theorem CM.grown_alloc {B : Nat} {W w : World} (h : CM B W w) {o : Obj} : CM B W (w.alloc o) := h.trans ⟨grown_of_below (Below.alloc (Below.refl _ _) (Nat.le_refl _) _), h.2.below (Below.alloc (Below.refl _ _) (Nat.le_refl _) _)⟩
theorem CM.call {B : Nat} {W w : World} (h : CM B W w) {f : FuncId} {args : Array Value} {v : Value} (hc : Calls Try.prog f args w fun e w' => e = .returned v ∧ Below w.heap.size w w') :
    Calls Try.prog f args w fun e w' => e = .returned v ∧ CM B W w' :=
  hc.mono fun _ _ ⟨he, hb⟩ => ⟨he, h.trans ⟨grown_of_below hb, h.2.below hb⟩⟩
theorem CM.count {B : Nat} {W w : World} (h : CM B W w) {f : FuncId} {args : Array Value} {v : Value} (hc : Calls Try.prog f args w fun e w' => e = .returned v ∧ CM B w w') :
    Calls Try.prog f args w fun e w' => e = .returned v ∧ CM B W w' :=
  hc.mono fun _ _ ⟨he, hb⟩ => ⟨he, h.trans hb⟩
end Go.Proofs.Ythajaabgcbjfkaa
