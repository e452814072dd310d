/- Lemmas for the law: E17 E21 E27 L0 Q21 Q22 Q23 Q24 -/
import Derived.Test.YtcgjmdpcplhanaaGreatRows
import Derived.WalkKit
import Derived.ProofKit
import Derived.OpenShut
import Derived.ChangeOld
import Derived.ChangeSlices
import Derived.Below
import Derived.Lib.SmallJoins
import Derived.Deep.Slices
import Derived.Test.YtcgjmdpcplhanaaGreatZk10
namespace Go.Proofs.YtcgjmdpcplhanaaGreat
theorem zs175 {p q : Prop} (h : q) (f : Wq q → p := by (intro hW; ((refine zs59 ?_; refine zs25 ?_; refine zs25 ?_; refine zs28 ?_; refine zs27 ?_; refine zs25 ?_; refine zs25 ?_; refine zs28 ?_; refine zs27 ?_; refine zs38 ?_; refine zs41 ?_; refine zs31 ?_)); exact hW.out)) : p := f ⟨h⟩
theorem zs174 {p q : Prop} (h : q) (f : Wq q → p := by (intro hW; ((refine zs55 ?_; refine zs25 ?_; refine zs25 ?_; refine zs28 ?_; refine zs27 ?_; refine zs25 ?_; refine zs25 ?_; refine zs28 ?_; refine zs27 ?_; refine zs58 ?_; refine zs31 ?_)); exact hW.out)) : p := f ⟨h⟩
theorem zs177 {p q : Prop} (h : q) (f : Wq q → p := by (intro hW; ((refine gar ?_; refine zs4 ?_; refine zs4 ?_; refine zs67 ?_; refine zs23 ?_; refine zs5 ?_; refine zs7 ?_; refine zs4 ?_; refine zs8 ?_; refine zs8 ?_; refine zs10 ?_; refine zs11 ?_; refine zs60 ?_; refine zs63 ?_; refine zs13 ?_; refine zs4 ?_; refine zs8 ?_; refine zs8 ?_; refine zs10 ?_; refine zs11 ?_; refine zs60 ?_; refine zs63 ?_; refine zs62 ?_; refine aL_nil ?_)); exact hW.out)) : p := f ⟨h⟩
theorem zs176 {p q : Prop} (h : q) (f : Wq q → p := by (intro hW; ((refine gar ?_; refine zs4 ?_; refine zs5 ?_; refine zs7 ?_; refine zs4 ?_; refine zs8 ?_; refine zs60 ?_; refine zs63 ?_; refine zs13 ?_; refine zs4 ?_; refine zs8 ?_; refine zs60 ?_; refine zs63 ?_; refine zs62 ?_; refine aL_nil ?_)); exact hW.out)) : p := f ⟨h⟩
end Go.Proofs.YtcgjmdpcplhanaaGreat
namespace Go.Proofs.YtcgjmdpcplhanaaGreat
open Go.RowKit
namespace DW
theorem take_eq_all {α : Type} {a b : List α} (hl : a.length = b.length) (h : a.take a.length = b.take a.length) : a = b := by
 rw [List.take_length] at h
 rw [h, hl, List.take_length]
set_option maxRecDepth 20000
set_option maxHeartbeats 1000000
theorem ints_d (a b : List Int) (ha : a.length ≤ 1000000000) : Fn Tryz.prog 55 [dI a, dI b] (.sc (.bool (decide (a = b)))) := by
 refine fn_of Tryz.func55 zb95 rfl rfl rfl fun X0 => ?_
 simp only [initL]
 by_cases hl : a.length = b.length
 ·(repeat (first | refine gk fun K hK => ?_ | refine zs2 ?_)); refine zs127 ?_; (repeat (first | refine gk fun K hK => ?_ | refine zs2 ?_)); refine zs128 ?_; (repeat (first | refine gk fun K hK => ?_ | refine zs2 ?_))
  refine zs45 ?_
  (repeat (first | refine gk fun K hK => ?_ | refine zs2 ?_)); refine zs117 ?_; (repeat (first | refine gk fun K hK => ?_ | refine zs2 ?_))
  (refine aW_sh (Sh_to (sl' := [(0, dI a), (1, dI b), (5, zI 0)]) (ow' := []) zb19 zb36) ?_)
  refine aW_loop (fun r s => ∃ k, k ≤ a.length ∧ r = a.length - k ∧ a.take k = b.take k ∧ s = ⟨[(0, dI a), (1, dI b), (5, zI (k : Nat))], []⟩) (m := a.length) ⟨0, Nat.zero_le _, rfl, rfl, rfl⟩ fun r s hs => ?_
  obtain ⟨k, hk, rfl, he, rfl⟩ := hs
  by_cases hkl : k < a.length
  ·obtain ⟨x, hx⟩ := get_some hkl
   obtain ⟨y, hy⟩ := get_some (m := b) (k := k) (by omega)
   by_cases hxy : x = y
   ·(repeat (first | refine gk fun K hK => ?_ | refine zs2 ?_)); refine zs132 ?_; (repeat (first | refine gk fun K hK => ?_ | refine zs2 ?_))
    refine zs48 ?_
    (repeat (first | refine gk fun K hK => ?_ | refine zs2 ?_)); refine zs174 ?_; (repeat (first | refine gk fun K hK => ?_ | refine zs2 ?_))
    refine zs45 ?_
    (repeat (first | refine gk fun K hK => ?_ | refine zs2 ?_)); refine zs119 ?_; (repeat (first | refine gk fun K hK => ?_ | refine zs2 ?_))
    simp only [nx, inB]
    exact ⟨a.length - (k + 1), _, by omega, (Sh_to (sl' := [(0, dI a), (1, dI b), (5, zI ((k + 1 : Nat) : Int))]) (ow' := []) zb19 zb36), k + 1, by omega, rfl, by rw [take_snoc hx, take_snoc hy, he, hxy], rfl⟩
   ·have EC : decide (a = b) = false := decide_eq_false fun e => hxy (by rw [e, hy] at hx; cases hx; rfl)
    (repeat (first | refine gk fun K hK => ?_ | refine zs2 ?_)); refine zs132 ?_; (repeat (first | refine gk fun K hK => ?_ | refine zs2 ?_))
    refine zs48 ?_
    (repeat (first | refine gk fun K hK => ?_ | refine zs2 ?_)); refine zs174 ?_; (repeat (first | refine gk fun K hK => ?_ | refine zs2 ?_))
    refine zs48 ?_
    (repeat (first | refine gk fun K hK => ?_ | refine zs2 ?_)); refine zs127 ?_; (repeat (first | refine gk fun K hK => ?_ | refine zs2 ?_))
    rw [EC]
    exact ⟨_, Sh.refl, .one (.tmp 4) _ rfl (.tmp 4 rfl)⟩
  ·obtain rfl : k = a.length := by omega
   have EC : decide (a = b) = true := decide_eq_true (take_eq_all hl he)
   (repeat (first | refine gk fun K hK => ?_ | refine zs2 ?_)); refine zs132 ?_; (repeat (first | refine gk fun K hK => ?_ | refine zs2 ?_))
   refine zs45 ?_
   (repeat (first | refine gk fun K hK => ?_ | refine zs2 ?_)); refine zs127 ?_; (repeat (first | refine gk fun K hK => ?_ | refine zs2 ?_))
   rw [EC]
   exact ⟨_, Sh.refl, .one (.tmp 4) _ rfl (.tmp 4 rfl)⟩
 ·have EC : decide (a = b) = false := decide_eq_false fun e => hl (by rw [e])
  (repeat (first | refine gk fun K hK => ?_ | refine zs2 ?_)); refine zs127 ?_; (repeat (first | refine gk fun K hK => ?_ | refine zs2 ?_)); refine zs128 ?_; (repeat (first | refine gk fun K hK => ?_ | refine zs2 ?_))
  refine zs48 ?_
  (repeat (first | refine gk fun K hK => ?_ | refine zs2 ?_)); refine zs127 ?_; (repeat (first | refine gk fun K hK => ?_ | refine zs2 ?_))
  rw [EC]
  exact ⟨_, Sh.refl, .one (.tmp 4) _ rfl (.tmp 4 rfl)⟩
theorem lists_d (a b : List (List Int)) (ha : a.length ≤ 1000000000) (ha2 : ∀ l ∈ a, l.length ≤ 1000000000) : Fn Tryz.prog 19 [dM a, dM b] (.sc (.bool (decide (a = b)))) := by
 refine fn_of Tryz.func19 zb95 rfl rfl rfl fun X0 => ?_
 simp only [initL]
 by_cases hl : a.length = b.length
 ·(repeat (first | refine gk fun K hK => ?_ | refine zs2 ?_)); refine zs127 ?_; (repeat (first | refine gk fun K hK => ?_ | refine zs2 ?_)); refine zs128 ?_; (repeat (first | refine gk fun K hK => ?_ | refine zs2 ?_))
  refine zs45 ?_
  (repeat (first | refine gk fun K hK => ?_ | refine zs2 ?_)); refine zs117 ?_; (repeat (first | refine gk fun K hK => ?_ | refine zs2 ?_))
  (refine aW_sh (Sh_to (sl' := [(0, dM a), (1, dM b), (5, zI 0)]) (ow' := []) zb19 zb36) ?_)
  refine aW_loop (fun r s => ∃ k, k ≤ a.length ∧ r = a.length - k ∧ a.take k = b.take k ∧ s = ⟨[(0, dM a), (1, dM b), (5, zI (k : Nat))], []⟩) (m := a.length) ⟨0, Nat.zero_le _, rfl, rfl, rfl⟩ fun r s hs => ?_
  obtain ⟨k, hk, rfl, he, rfl⟩ := hs
  by_cases hkl : k < a.length
  ·obtain ⟨x, hx⟩ := get_some hkl
   obtain ⟨y, hy⟩ := get_some (m := b) (k := k) (by omega)
   have IN := ints_d x y (ha2 x (List.mem_of_getElem? hx))
   by_cases hxy : x = y
   ·rw [decide_eq_true hxy] at IN
    (repeat (first | refine gk fun K hK => ?_ | refine zs2 ?_)); refine zs132 ?_; (repeat (first | refine gk fun K hK => ?_ | refine zs2 ?_))
    refine zs48 ?_
    (repeat (first | refine gk fun K hK => ?_ | refine zs2 ?_)); refine zs175 ?_; (repeat (first | refine gk fun K hK => ?_ | refine zs2 ?_))
    refine zs45 ?_
    (repeat (first | refine gk fun K hK => ?_ | refine zs2 ?_)); refine zs119 ?_; (repeat (first | refine gk fun K hK => ?_ | refine zs2 ?_))
    simp only [nx, inB]
    exact ⟨a.length - (k + 1), _, by omega, (Sh_to (sl' := [(0, dM a), (1, dM b), (5, zI ((k + 1 : Nat) : Int))]) (ow' := []) zb19 zb36), k + 1, by omega, rfl, by rw [take_snoc hx, take_snoc hy, he, hxy], rfl⟩
   ·rw [decide_eq_false hxy] at IN
    have EC : decide (a = b) = false := decide_eq_false fun e => hxy (by rw [e, hy] at hx; cases hx; rfl)
    (repeat (first | refine gk fun K hK => ?_ | refine zs2 ?_)); refine zs132 ?_; (repeat (first | refine gk fun K hK => ?_ | refine zs2 ?_))
    refine zs48 ?_
    (repeat (first | refine gk fun K hK => ?_ | refine zs2 ?_)); refine zs175 ?_; (repeat (first | refine gk fun K hK => ?_ | refine zs2 ?_))
    refine zs48 ?_
    (repeat (first | refine gk fun K hK => ?_ | refine zs2 ?_)); refine zs127 ?_; (repeat (first | refine gk fun K hK => ?_ | refine zs2 ?_))
    rw [EC]
    exact ⟨_, Sh.refl, .one (.tmp 4) _ rfl (.tmp 4 rfl)⟩
  ·obtain rfl : k = a.length := by omega
   have EC : decide (a = b) = true := decide_eq_true (take_eq_all hl he)
   (repeat (first | refine gk fun K hK => ?_ | refine zs2 ?_)); refine zs132 ?_; (repeat (first | refine gk fun K hK => ?_ | refine zs2 ?_))
   refine zs45 ?_
   (repeat (first | refine gk fun K hK => ?_ | refine zs2 ?_)); refine zs127 ?_; (repeat (first | refine gk fun K hK => ?_ | refine zs2 ?_))
   rw [EC]
   exact ⟨_, Sh.refl, .one (.tmp 4) _ rfl (.tmp 4 rfl)⟩
 ·have EC : decide (a = b) = false := decide_eq_false fun e => hl (by rw [e])
  (repeat (first | refine gk fun K hK => ?_ | refine zs2 ?_)); refine zs127 ?_; (repeat (first | refine gk fun K hK => ?_ | refine zs2 ?_)); refine zs128 ?_; (repeat (first | refine gk fun K hK => ?_ | refine zs2 ?_))
  refine zs48 ?_
  (repeat (first | refine gk fun K hK => ?_ | refine zs2 ?_)); refine zs127 ?_; (repeat (first | refine gk fun K hK => ?_ | refine zs2 ?_))
  rw [EC]
  exact ⟨_, Sh.refl, .one (.tmp 4) _ rfl (.tmp 4 rfl)⟩
end DW
end Go.Proofs.YtcgjmdpcplhanaaGreat
namespace Go.Proofs.YtcgjmdpcplhanaaGreat
open Go.RowKit
namespace DW
def smq (n : Nat) : Bool := decide ((5 < n ∧ n ≤ 64) ∨ 70 < n)
def smL (m : List (List Int)) : Bool := !(smq m.length) && m.all fun l => !(smq l.length)
theorem smL_no {m : List (List Int)} {l : List Int} (h : l ∈ m) (h2 : smq l.length = true) : smL m = false := by
 unfold smL
 rw [Bool.and_eq_false_iff]
 right
 rw [List.all_eq_false]
 exact ⟨l, h, by rw [h2]; decide⟩
set_option maxRecDepth 20000
set_option maxHeartbeats 1000000
theorem smallL_d (m : List (List Int)) : Fn Tryz.prog 14 [dM m] (.sc (.bool (smL m))) := by
  refine fn_of Tryz.func14 zb95 rfl rfl rfl fun X0 => ?_
  simp only [initL]
  by_cases hq : smq m.length = true
  · have EC : smL m = false := by unfold smL; rw [hq]; rfl
    have hq' := of_decide_eq_true hq
    rcases hq' with ⟨h1, h2⟩ | h1
    · have d1 : decide ((m.length : Int) > 5) = true := decide_eq_true (by omega)
      have d2 : decide ((m.length : Int) ≤ 64) = true := decide_eq_true (by omega)
      (repeat (first | refine gk fun K hK => ?_ | refine zs2 ?_)); refine zs127 ?_; (repeat (first | refine gk fun K hK => ?_ | refine zs2 ?_)); refine zs176 ?_; (repeat (first | refine gk fun K hK => ?_ | refine zs2 ?_))
      refine zs48 ?_
      (repeat (first | refine gk fun K hK => ?_ | refine zs2 ?_)); refine zs127 ?_; (repeat (first | refine gk fun K hK => ?_ | refine zs2 ?_))
      rw [EC]
      exact ⟨_, Sh.refl, .one (.tmp 2) _ rfl (.tmp 2 rfl)⟩
    · have d1 : decide ((m.length : Int) > 5) = true := decide_eq_true (by omega)
      have d2 : decide ((m.length : Int) ≤ 64) = false := decide_eq_false (by omega)
      (repeat (first | refine gk fun K hK => ?_ | refine zs2 ?_)); refine zs127 ?_; (repeat (first | refine gk fun K hK => ?_ | refine zs2 ?_)); refine zs176 ?_; (repeat (first | refine gk fun K hK => ?_ | refine zs2 ?_))
      refine zs48 ?_
      (repeat (first | refine gk fun K hK => ?_ | refine zs2 ?_)); refine zs127 ?_; (repeat (first | refine gk fun K hK => ?_ | refine zs2 ?_))
      rw [EC]
      exact ⟨_, Sh.refl, .one (.tmp 2) _ rfl (.tmp 2 rfl)⟩
  · have hq0 : smq m.length = false := by simpa using hq
    have hq' := of_decide_eq_false hq0
    have hml : m.length ≤ 70 := by omega
    have hc : m.length ≤ 5 ∨ (64 < m.length ∧ m.length ≤ 70) := by omega
    rcases hc with h1 | ⟨h1, h2⟩
    all_goals
      first
      | have d1 : decide ((m.length : Int) > 5) = false := decide_eq_false (by omega)
      | (have d1 : decide ((m.length : Int) > 5) = true := decide_eq_true (by omega)
         have d2 : decide ((m.length : Int) ≤ 64) = false := decide_eq_false (by omega))
      (repeat (first | refine gk fun K hK => ?_ | refine zs2 ?_)); refine zs127 ?_; (repeat (first | refine gk fun K hK => ?_ | refine zs2 ?_)); refine zs176 ?_; (repeat (first | refine gk fun K hK => ?_ | refine zs2 ?_))
      refine zs45 ?_
      (repeat (first | refine gk fun K hK => ?_ | refine zs2 ?_)); refine zs117 ?_; (repeat (first | refine gk fun K hK => ?_ | refine zs2 ?_))
      (refine aW_sh (Sh_to (sl' := [(0, dM m), (3, zI 0)]) (ow' := []) zb19 zb36) ?_)
      refine aW_loop (fun r s => ∃ k, k ≤ m.length ∧ r = m.length - k ∧ (m.take k).all (fun l => !(smq l.length)) = true ∧ s = ⟨[(0, dM m), (3, zI (k : Nat))], []⟩) (m := m.length) ⟨0, Nat.zero_le _, rfl, rfl, rfl⟩ fun r s hs => ?_
      obtain ⟨k, hk, rfl, he, rfl⟩ := hs
      by_cases hkl : k < m.length
      · obtain ⟨l, hl⟩ := get_some hkl
        by_cases hql : smq l.length = true
        · have EC := smL_no (List.mem_of_getElem? hl) hql
          have hql' := of_decide_eq_true hql
          have d3 : decide ((l.length : Int) > 5) = true := decide_eq_true (by omega)
          rcases hql' with ⟨h3, h4⟩ | h3
          · have d4 : decide ((l.length : Int) ≤ 64) = true := decide_eq_true (by omega)
            (repeat (first | refine gk fun K hK => ?_ | refine zs2 ?_)); refine zs132 ?_; (repeat (first | refine gk fun K hK => ?_ | refine zs2 ?_))
            refine zs48 ?_
            (repeat (first | refine gk fun K hK => ?_ | refine zs2 ?_)); refine zs177 ?_; (repeat (first | refine gk fun K hK => ?_ | refine zs2 ?_))
            refine zs48 ?_
            (repeat (first | refine gk fun K hK => ?_ | refine zs2 ?_)); refine zs127 ?_; (repeat (first | refine gk fun K hK => ?_ | refine zs2 ?_))
            rw [EC]
            exact ⟨_, Sh.refl, .one (.tmp 2) _ rfl (.tmp 2 rfl)⟩
          · have d4 : decide ((l.length : Int) ≤ 64) = false := decide_eq_false (by omega)
            (repeat (first | refine gk fun K hK => ?_ | refine zs2 ?_)); refine zs132 ?_; (repeat (first | refine gk fun K hK => ?_ | refine zs2 ?_))
            refine zs48 ?_
            (repeat (first | refine gk fun K hK => ?_ | refine zs2 ?_)); refine zs177 ?_; (repeat (first | refine gk fun K hK => ?_ | refine zs2 ?_))
            refine zs48 ?_
            (repeat (first | refine gk fun K hK => ?_ | refine zs2 ?_)); refine zs127 ?_; (repeat (first | refine gk fun K hK => ?_ | refine zs2 ?_))
            rw [EC]
            exact ⟨_, Sh.refl, .one (.tmp 2) _ rfl (.tmp 2 rfl)⟩
        · have hql0 : smq l.length = false := by simpa using hql
          have hql' := of_decide_eq_false hql0
          have he' : (m.take (k + 1)).all (fun l => !(smq l.length)) = true := by rw [take_snoc hl, List.all_append, he]; simp [hql0]
          have hc2 : l.length ≤ 5 ∨ (64 < l.length ∧ l.length ≤ 70) := by omega
          rcases hc2 with h3 | ⟨h3, h4⟩
          · have d3 : decide ((l.length : Int) > 5) = false := decide_eq_false (by omega)
            (repeat (first | refine gk fun K hK => ?_ | refine zs2 ?_)); refine zs132 ?_; (repeat (first | refine gk fun K hK => ?_ | refine zs2 ?_))
            refine zs48 ?_
            (repeat (first | refine gk fun K hK => ?_ | refine zs2 ?_)); refine zs177 ?_; (repeat (first | refine gk fun K hK => ?_ | refine zs2 ?_))
            refine zs45 ?_
            (repeat (first | refine gk fun K hK => ?_ | refine zs2 ?_)); refine zs119 ?_; (repeat (first | refine gk fun K hK => ?_ | refine zs2 ?_))
            simp only [nx, inB]
            exact ⟨m.length - (k + 1), _, by omega, (Sh_to (sl' := [(0, dM m), (3, zI ((k + 1 : Nat) : Int))]) (ow' := []) zb19 zb36), k + 1, by omega, rfl, he', rfl⟩
          · have d3 : decide ((l.length : Int) > 5) = true := decide_eq_true (by omega)
            have d4 : decide ((l.length : Int) ≤ 64) = false := decide_eq_false (by omega)
            (repeat (first | refine gk fun K hK => ?_ | refine zs2 ?_)); refine zs132 ?_; (repeat (first | refine gk fun K hK => ?_ | refine zs2 ?_))
            refine zs48 ?_
            (repeat (first | refine gk fun K hK => ?_ | refine zs2 ?_)); refine zs177 ?_; (repeat (first | refine gk fun K hK => ?_ | refine zs2 ?_))
            refine zs45 ?_
            (repeat (first | refine gk fun K hK => ?_ | refine zs2 ?_)); refine zs119 ?_; (repeat (first | refine gk fun K hK => ?_ | refine zs2 ?_))
            simp only [nx, inB]
            exact ⟨m.length - (k + 1), _, by omega, (Sh_to (sl' := [(0, dM m), (3, zI ((k + 1 : Nat) : Int))]) (ow' := []) zb19 zb36), k + 1, by omega, rfl, he', rfl⟩
      · obtain rfl : k = m.length := by omega
        rw [List.take_length] at he
        have EC : smL m = true := by unfold smL; rw [hq0, he]; rfl
        (repeat (first | refine gk fun K hK => ?_ | refine zs2 ?_)); refine zs132 ?_; (repeat (first | refine gk fun K hK => ?_ | refine zs2 ?_))
        refine zs45 ?_
        (repeat (first | refine gk fun K hK => ?_ | refine zs2 ?_)); refine zs127 ?_; (repeat (first | refine gk fun K hK => ?_ | refine zs2 ?_))
        rw [EC]
        exact ⟨_, Sh.refl, .one (.tmp 2) _ rfl (.tmp 2 rfl)⟩
end DW
end Go.Proofs.YtcgjmdpcplhanaaGreat
namespace Go.Proofs.YtcgjmdpcplhanaaGreat
open Go.RowKit
namespace DW
theorem ad_plus (b o j : Nat) : (⟨b, o, none⟩ : Addr).add j = ⟨b, o + j, none⟩ := Addr.add_mid b o j
theorem ari_zat {X : Nat → Prop} {w : World} {l : List Int} {v : Value} (h : AR X w (dI l) v) : ∃ a c, v = .slice a l.length c ∧ l.length ≤ c ∧ ZAt w a l := by
 simp only [dI, AR] at h
 obtain ⟨a, c, rfl, h2, h3⟩ := h
 rw [List.length_map] at h2
 refine ⟨a, c, by rw [List.length_map], h2, ?_⟩
 rcases h3 with h3 | ⟨b, o, rfl, _, hb, hs⟩
 ·exact .inl (by simpa using h3)
 ·refine .inr ⟨⟨b, o, none⟩, rfl, hb, fun k x hk => ?_⟩
  obtain ⟨u, h4, _, _, h7⟩ := ARs.at hs (i := k) (d := zI x) (by rw [List.getElem?_map, hk]; rfl)
  simp only [AR] at h4
  obtain ⟨rfl, _⟩ := h4
  have := h7 0 (.int .i64 x) rfl
  rw [ad_plus]
  simpa using this
theorem arm_zm {X : Nat → Prop} {w : World} {m : List (List Int)} {v : Value} (h : AR X w (dM m) v) : ZM w v m := by
 simp only [dM, AR] at h
 obtain ⟨a, c, rfl, h2, h3⟩ := h
 rw [List.length_map] at h2
 refine ⟨a, c, by rw [List.length_map], h2, ?_⟩
 rcases h3 with h3 | ⟨b, o, rfl, _, hb, hs⟩
 ·exact .inl (by simpa using h3)
 ·refine .inr ⟨⟨b, o, none⟩, rfl, hb, fun k l hk => ?_⟩
  obtain ⟨u, h4, _, _, h7⟩ := ARs.at hs (i := k) (d := dI l) (by rw [List.getElem?_map, hk]; rfl)
  obtain ⟨a', c', rfl, h8, h9⟩ := ari_zat h4
  have := h7 0 _ rfl
  rw [ad_plus]
  exact ⟨a', c', by simpa using this, h8, h9⟩
theorem zmb_arm {X : Nat → Prop} {B : Nat} {w : World} {m : List (List Int)} {v : Value} (h : ZMB B w v m) (hX : ∀ b, X b → b < B) : AR X w (dM m) v := by
 obtain ⟨a, cap, rfl, hc, h⟩ := h
 simp only [dM, AR]
 refine ⟨a, cap, by rw [List.length_map], by rw [List.length_map]; exact hc, ?_⟩
 rcases h with h | ⟨g, rfl, h1, hg, h2⟩
 ·exact .inl (by rw [h]; rfl)
 ·refine .inr ⟨g, 0, rfl, fun hx => by have := hX g hx; omega, hg, ARs.mk fun i d hd => ?_⟩
  rw [List.getElem?_map] at hd
  obtain ⟨l, hl, rfl⟩ := Option.map_eq_some_iff.1 hd
  obtain ⟨g', h3, h4, h5⟩ := h2 i l hl
  refine ⟨.slice (some ⟨g', 0, none⟩) l.length l.length, ?_, rfl, rfl, fun j u hj => ?_⟩
  ·simp only [dI, AR]
   refine ⟨_, _, by rw [List.length_map], by rw [List.length_map]; exact Nat.le_refl _, .inr ⟨g', 0, rfl, fun hx => by have := hX g' hx; omega, h5.lt, ARs.mk fun k d hd => ?_⟩⟩
   rw [List.getElem?_map] at hd
   obtain ⟨z, hz, rfl⟩ := Option.map_eq_some_iff.1 hd
   refine ⟨.int .i64 z, by simp only [zI, AR]; exact ⟨trivial, rfl⟩, rfl, rfl, fun j u hj => ?_⟩
   match j, hj with
   | 0, hj =>
    have : u = .int .i64 z := by simpa [Value.cells] using hj.symm
    rw [this]
    simpa using h5.c k z hz
   | j + 1, hj => simp [Value.cells] at hj
  ·match j, hj with
   | 0, hj =>
    have : u = .slice (some ⟨g', 0, none⟩) l.length l.length := by simpa [Value.cells] using hj.symm
    rw [this]
    simpa using h3
   | j + 1, hj => simp [Value.cells] at hj
theorem ar_nilM {X : Nat → Prop} {w : World} : AR X w (dM []) (.slice none 0 0) := by
 simp only [dM, List.map_nil, AR]
 exact ⟨none, 0, rfl, Nat.le_refl _, .inl (by simp)⟩
theorem ar_n {X : Nat → Prop} {w : World} (z : Int) : AR X w (zI z) (.int .i64 z) := by simp only [zI, AR]; exact ⟨trivial, rfl⟩
theorem inl_iff {M : Mx.Mat} : InL 1000000000000000 M ↔ M.all (fun l => l.all (inb 1000000000000000)) = true := by
 constructor
 ·intro h
  refine List.all_eq_true.2 fun l hl => List.all_eq_true.2 fun z hz => inb_iff.2 ?_
  have := bd_mem (B := 1000000000000000) h hl hz
  omega
 ·intro h i j
  rcases at_mem M i j with h1 | ⟨r, hr, hz⟩
  ·rw [h1]; exact Nat.zero_le _
  ·have := inb_iff.1 (List.all_eq_true.1 (List.all_eq_true.1 h r hr) _ hz)
   omega
theorem ar_tp2 {X : Nat → Prop} {w : World} {d1 d2 : D} {u1 u2 : Value} (h1 : AR X w d1 u1) (h2 : AR X w d2 u2) : AR X w (.tp [d1, d2]) (.tuple #[u1, u2]) := by
 simp only [AR, ATp]; exact ⟨_, rfl, _, _, rfl, h1, _, _, rfl, h2, rfl⟩
def lkr (m : Mx.Mat) : D := if chk m ≠ 0 then .tp [dM [], zI (chk m)] else if (KT m).2.all (fun l => l.all (inb 1000000000000000)) = true then .tp [dM (KT m).2, zI 0] else .tp [dM [], zI 8]
theorem lkernel_d (m : Mx.Mat) (hm : m.length ≤ 1000000) (hr : ∀ r ∈ m, r.length ≤ 1000000) (hs : chk m = 0 → wid m + m.length ≤ 10) : Fn Tryz.prog 27 [dM m] (lkr m) := by
 refine ⟨enters_of Tryz.func27 zb95 rfl, fun X w vs hX hv => ?_⟩
 simp only [ATp] at hv
 obtain ⟨v, rest, e, h1, rfl⟩ := hv
 have : vs = #[v] := Array.toList_inj.1 e
 subst this
 refine (lkernel_any m v hm hr hs w (arm_zm h1)).mono fun e w' ⟨h, hb⟩ => ?_
 unfold lkr
 rcases h with ⟨hc, rfl⟩ | ⟨hc, hk, rfl⟩ | ⟨hc, hk, hi, rfl⟩ | ⟨hc, hk, hi, v, rfl, hz⟩
 ·rw [if_pos hc]
  exact ⟨_, rfl, ar_tp2 ar_nilM (ar_n _), hb⟩
 ·have hf := Mx.KT_full (chk_ok hc).2.2.1
  have h0 : (KT m).2 = [] := List.eq_nil_of_length_eq_zero (by rw [hf.2]; omega)
  rw [if_neg (fun h => h hc), h0, if_pos (show ([] : Mx.Mat).all (fun l => l.all (inb 1000000000000000)) = true from rfl)]
  exact ⟨_, rfl, ar_tp2 ar_nilM (ar_n _), hb⟩
 ·rw [Mx.KerM_all (chk_ok hc).2.2.1, inl_iff] at hi
  rw [if_neg (fun h => h hc), if_neg hi]
  exact ⟨_, rfl, ar_tp2 ar_nilM (ar_n _), hb⟩
 ·rw [Mx.KerM_all (chk_ok hc).2.2.1] at hi hz
  rw [inl_iff] at hi
  rw [if_neg (fun h => h hc), if_pos hi]
  exact ⟨_, rfl, ar_tp2 (zmb_arm hz (fun b hb => (hX b hb).1)) (ar_n _), hb⟩
theorem lrank_d (m : Mx.Mat) (hm : m.length ≤ 1000000) (hr : ∀ r ∈ m, r.length ≤ 1000000) (hs : chk m = 0 → wid m ≤ 10) : Fn Tryz.prog 29 [dM m] (.tp [zI (lrk m), zI (chk m)]) := by
 refine ⟨enters_of Tryz.func29 zb95 rfl, fun X w vs hX hv => ?_⟩
 simp only [ATp] at hv
 obtain ⟨v, rest, e, h1, rfl⟩ := hv
 have : vs = #[v] := Array.toList_inj.1 e
 subst this
 refine (lrank_any m v hm hr hs w (arm_zm h1)).mono fun e w' ⟨h, hb⟩ => ⟨_, h, ar_tp2 (ar_n _) (ar_n _), hb⟩
end DW
end Go.Proofs.YtcgjmdpcplhanaaGreat
namespace Go.Proofs.YtcgjmdpcplhanaaGreat
open Go.ChangeShapes Go.WideShapes Go.ChangeAt Go.RowKit Go.Joins Go.Deep
theorem own : ownKnob Tryz.prog.godebug = none := by kernel_rfl
theorem laidOut : laidOutB Tryz.prog = true := by kernel_rfl
theorem cells_int : Tryz.prog.cellsOf 3 = 1 := by kernel_rfl
theorem cells_ints : Tryz.prog.cellsOf 40 = 1 := by kernel_rfl
namespace DW
theorem addr_none {w : World} {a : Addr} {v : Value} (h : w.cell? a = some v) : a = ⟨a.block, a.off, none⟩ := by
 obtain ⟨b, o, s⟩ := a
 cases s with
 | none => rfl
 | some k =>
  unfold World.cell? at h
  simp only at h
  split at h
  ·simp at h
  ·cases h
theorem ar_ints {w : World} {a : Addr} {l : List Int} {cap : Nat} (hc : l.length ≤ cap) (h : ∀ i, i < l.length → w.cell? (a.add i) = some (.int .i64 (l.getD i 0))) : AR (fun _ => False) w (dI l) (.slice (some a) l.length cap) := by
 simp only [dI, AR]
 refine ⟨some a, cap, by rw [List.length_map], by rw [List.length_map]; exact hc, ?_⟩
 by_cases hl : l = []
 ·exact .inl (by rw [hl]; rfl)
 ·have hp : 0 < l.length := List.length_pos_iff.2 hl
  have h0 : w.cell? a = some (.int .i64 (l.getD 0 0)) := h 0 hp
  have ha := addr_none h0
  refine .inr ⟨a.block, a.off, congrArg some ha, fun h => h, World.block_lt_of_cell? w _ h0, ARs.mk fun i d hd => ?_⟩
  rw [List.getElem?_map] at hd
  obtain ⟨z, hz, rfl⟩ := Option.map_eq_some_iff.1 hd
  have hi := (List.getElem?_eq_some_iff.1 hz).1
  refine ⟨.int .i64 z, ar_n z, rfl, rfl, fun j u hj => ?_⟩
  match j, hj with
  | 0, hj =>
   have : u = .int .i64 z := by simpa [Value.cells] using hj.symm
   have h1 := h i hi
   rw [List.getD_eq_getElem?_getD, hz] at h1
   rw [this, Nat.mul_one, Nat.add_zero]
   rw [ha, ad_plus] at h1
   exact h1
  | j + 1, hj => simp [Value.cells] at hj
theorem ar_rows {w : World} {a : Addr} {m : List (List Int)} {cap : Nat} (hc : m.length ≤ cap) (h : ∀ i l, m[i]? = some l → ∃ u, w.cell? (a.add i) = some u ∧ AR (fun _ => False) w (dI l) u) : AR (fun _ => False) w (dM m) (.slice (some a) m.length cap) := by
 simp only [dM, AR]
 refine ⟨some a, cap, by rw [List.length_map], by rw [List.length_map]; exact hc, ?_⟩
 cases m with
 | nil => exact .inl rfl
 | cons l0 m0 =>
  obtain ⟨u0, h0, _⟩ := h 0 l0 rfl
  have ha := addr_none (show w.cell? a = some u0 from h0)
  refine .inr ⟨a.block, a.off, congrArg some ha, fun h => h, World.block_lt_of_cell? w _ (show w.cell? a = some u0 from h0), ARs.mk fun i d hd => ?_⟩
  rw [List.getElem?_map] at hd
  obtain ⟨l, hl, rfl⟩ := Option.map_eq_some_iff.1 hd
  obtain ⟨u, h1, h2⟩ := h i l hl
  have h3 := h2
  simp only [dI, AR] at h3
  obtain ⟨a', c', rfl, _⟩ := h3
  refine ⟨_, h2, rfl, rfl, fun j u hj => ?_⟩
  match j, hj with
  | 0, hj =>
   have : u = .slice a' (l.map zI).length c' := by simpa [Value.cells] using hj.symm
   rw [this, Nat.mul_one, Nat.add_zero]
   rw [ha, ad_plus] at h1
   exact h1
  | j + 1, hj => simp [Value.cells] at hj
end DW
set_option maxRecDepth 100000 in
theorem open_mat {H : Type} {enc : TypeId × Value → H} {w : World} {base b0 : Nat} {spare : Nat → Bool} {held : Bool} {r : Reach} {v : Value} {d : DataW H} {p : List MemPlace}
  (hv : Value.okWide Tryz.prog w r b0 22 v) (h : DataW.Trod enc Tryz.prog w base spare held 22 v d p) : ∃ m : List (List Int), DW.AR (fun _ => False) w (DW.dM m) v := by
 obtain ⟨a0, len0, cap0, rfl⟩ := okWide_slice Tryz.underlying22 hv
 obtain ⟨fuel, hf⟩ := h
 rcases open_slice Tryz.underlying22 hf with ⟨hcs, hx⟩ | ⟨a, len, cap, m, n, D, Pl, hcs, _, hl, hm, hmm, _, hel⟩
 ·simp [Value.cells] at hcs
  obtain ⟨rfl, rfl, rfl⟩ := hcs
  exact ⟨[], DW.ar_nilM⟩
 ·simp [Value.cells] at hcs
  obtain ⟨rfl, rfl, rfl⟩ := hcs
  rw [cells_ints] at hel
  have hlm : len0 ≤ m := by rw [hmm]; split <;> omega
  obtain ⟨F, hF⟩ := choose_lt (α := List Int) (n := len0) (p := fun i (l : List Int) => ∃ u, w.cell? (a.add i) = some u ∧ DW.AR (fun _ => False) w (DW.dI l) u) (fun i hi => by
   obtain ⟨cs', h1, h2⟩ := hel i (by omega)
   obtain ⟨_, hlen, hc⟩ := World.cells?_some h1
   have hc0 := hc 0 (by omega)
   rw [Nat.mul_one] at hc0
   rcases open_ints Tryz.underlying40 Tryz.underlying3 cells_int h2 with ⟨rfl, _⟩ | ⟨a', len', cap', zs, rfl, _, hl', _, hz, _, hcell, _⟩
   ·refine ⟨[], .slice none 0 0, hc0, ?_⟩
    simp only [DW.dI, DW.AR]
    exact ⟨none, 0, rfl, Nat.le_refl _, .inl rfl⟩
   ·have hzl : len' ≤ zs.length := by rw [hz]; split <;> omega
    have hlen : (zs.take len').length = len' := by rw [List.length_take]; omega
    have hA := DW.ar_ints (w := w) (a := a') (l := zs.take len') (cap := cap') (by omega) (fun k hk => by
     rw [hlen] at hk
     rw [hcell k (by omega), List.getD_eq_getElem?_getD, List.getD_eq_getElem?_getD, List.getElem?_take, if_pos hk])
    rw [hlen] at hA
    exact ⟨zs.take len', _, hc0, hA⟩)
  have hlen : ((List.range len0).map F).length = len0 := by simp
  have hA := DW.ar_rows (w := w) (a := a) (m := (List.range len0).map F) (cap := cap0) (by omega) (fun i l hi => by
   have hk : i < len0 := by simpa using (List.getElem?_eq_some_iff.1 hi).1
   rw [List.getElem?_map, List.getElem?_range hk] at hi
   cases hi
   exact hF i hk)
  rw [hlen] at hA
  exact ⟨_, hA⟩
end Go.Proofs.YtcgjmdpcplhanaaGreat
namespace Go.Proofs.YtcgjmdpcplhanaaGreat
open Go.RowKit
namespace CI
variable {P : Program} {h h' : H} {tm tm' : Tm} {rec : Rec} {n : Nat} {r : List RO} {S : Nat → SD} {ops : Array Oper}
theorem Trace.mono (t : Trace rec r tm h tm' h' S) (hg : RecGd rec) (f : Wf h) {i j : Nat} (hij : i ≤ j) (hj : j ≤ r.length) : (S i).h.next ≤ (S j).h.next := by
 have := (t.gdm hg f (j - i) i (by omega)).good.next
 rwa [show i + (j - i) = j by omega] at this
theorem Trace.low (t : Trace rec r tm h tm' h' S) (hg : RecGd rec) (f : Wf h) {i j : Nat} (hij : i ≤ j) (hj : j ≤ r.length) : (S j).h.low ≤ (S i).h.low := by
 have := (t.gdm hg f (j - i) i (by omega)).good.low
 rwa [show i + (j - i) = j by omega] at this
theorem whole_get {g h1 : H} {k : Nat} (e : T.get h1.t k = T.get g.t k) : (g.whole h1).get k = g.get k := by
 unfold H.get
 show (match inForb k g.forb with | true => none | false => T.get h1.t k) = _
 rw [e]; rfl
theorem addO_get {g g' : H} {ob : Option B} (e : g.addO ob = some g') {k : Nat} (hk : k < g.next) : g'.get k = g.get k := by
 cases ob with
 | none => simp only [H.addO, Option.some.injEq] at e; rw [e]
 | some b =>
  obtain ⟨_, _, h3, _, h5⟩ := new_spec e
  exact get_of h3 (by rw [h5, if_neg (by omega)])
theorem Trace.keepW (t : Trace rec r tm h tm' h' S) (hg : RecGd rec) (f : Wf h) {i k : Nat} (hi : i < r.length) (hw : (S (i + 1)).wr = false) (hk : k < (S i).h.next) : (S (i + 1)).h.get k = (S i).h.get k := by
 obtain ⟨o, ho⟩ : ∃ o, r[i]? = some o := ⟨_, List.getElem?_eq_getElem hi⟩
 have f1 := (t.gd hg f i (by omega)).1
 rcases (t.cases ho).2 with ⟨_, _, e, _⟩ | ⟨_, _, _, _, _, ob, _, e, _⟩ | ⟨_, _, _, h1, e1, e2, e3, _⟩
 ·rw [e]
 ·exact addO_get e hk
 ·rw [e2]
  refine whole_get ((xR_gd hg (part_wf f1) e1).good.keep k hk ?_)
  rw [e3] at hw
  refine Nat.lt_of_lt_of_le hk (Nat.le_of_not_lt fun hlt => ?_)
  rw [← Nat.blt_eq] at hlt
  rw [hlt] at hw; cases hw
theorem Trace.keepO (t : Trace rec r tm h tm' h' S) (hg : RecGd rec) (f : Wf h) {i k q : Nat} {ro : RO} (hi : r[i]? = some ro) (hq : q < i) (hp : ro.pre.testBit q = false) (h1 : (S q).h.next ≤ k) (h2 : k < (S (q + 1)).h.next) : (S (i + 1)).h.get k = (S i).h.get k := by
 have hlt := (List.getElem?_eq_some_iff.1 hi).1
 have hk : k < (S i).h.next := Nat.lt_of_lt_of_le h2 (t.mono hg f hq (by omega))
 have f1 := (t.gd hg f i (by omega)).1
 rcases (t.cases hi).2 with ⟨_, _, e, _⟩ | ⟨_, _, _, _, _, ob, _, e, _⟩ | ⟨_, _, _, g1, e1, e2, e3, _⟩
 ·rw [e]
 ·exact addO_get e hk
 ·rw [e2]
  refine whole_get ((xR_gd hg (part_wf f1) e1).good.dead k hk fun hl => ?_)
  have := live_not_forb hl
  rw [show ((S i).h.part ro.pre (S i).iv).forb = forbs ro.pre (S i).iv (S i).h.forb from rfl, forbs_mem ((t.iv i (by omega)).2 q hq (by omega)) hp h1 h2] at this
  cases this
theorem Trace.wr_rd (t : Trace rec r tm h tm' h' S) {i : Nat} (hi : i < r.length) (hw : (S (i + 1)).wr = true) : (S (i + 1)).rd = true := by
 obtain ⟨o, ho⟩ : ∃ o, r[i]? = some o := ⟨_, List.getElem?_eq_getElem hi⟩
 rcases (t.cases ho).2 with ⟨_, _, _, e, _⟩ | ⟨_, _, e, _⟩ | ⟨_, _, e, _⟩
 ·rw [e] at hw; cases hw
 ·rw [e] at hw; cases hw
 ·exact e
theorem Trace.bound (t : Trace rec r tm h tm' h' S) {i j : Nat} {ro : RO} (hij : i < j) (hj : r[j]? = some ro) (hh : ((S (i + 1)).wr = true ∧ (S (j + 1)).rd = true) ∨ ((S (i + 1)).rd = true ∧ (S (j + 1)).wr = true)) : ro.pre.testBit i = true := by
 have hlt := (List.getElem?_eq_some_iff.1 hj).1
 have hri : (S (i + 1)).rd = true := by
  rcases hh with ⟨h1, _⟩ | ⟨h1, _⟩
  ·exact t.wr_rd (by omega) h1
  ·exact h1
 have hrj : (S (j + 1)).rd = true := by
  rcases hh with ⟨_, h1⟩ | ⟨_, h1⟩
  ·exact h1
  ·exact t.wr_rd hlt h1
 rcases (t.cases hj).2 with ⟨_, _, _, _, e, _⟩ | ⟨_, _, _, e, _⟩ | ⟨_, _, _, g1, _, _, _, e4, _⟩
 ·rw [e] at hrj; cases hrj
 ·rw [e] at hrj; cases hrj
 ·refine clash_false e4 (t.rw' j (by omega) i hij hri) ?_
  rcases hh with ⟨h1, _⟩ | ⟨_, h1⟩ <;> simp [h1]
theorem stay {k x : Nat} : ∀ {y : Nat}, x ≤ y → (∀ i, x ≤ i → i < y → (S (i + 1)).h.get k = (S i).h.get k) → (S y).h.get k = (S x).h.get k := fun {y} hxy => by
 induction y with
 | zero => intro _; rw [show x = 0 by omega]
 | succ y ih =>
  intro hh
  by_cases hx : x = y + 1
  ·rw [hx]
  ·rw [hh y (by omega) (by omega), ih (by omega) fun i h1 h2 => hh i h1 (by omega)]
theorem Trace.owner (t : Trace rec r tm h tm' h' S) {k : Nat} : ∀ {j : Nat}, (S 0).h.next ≤ k → k < (S j).h.next → ∃ q, q < j ∧ (S q).h.next ≤ k ∧ k < (S (q + 1)).h.next
 | 0, h1, h2 => by omega
 | j + 1, h1, h2 => by
  by_cases hk : k < (S j).h.next
  ·obtain ⟨q, q1, q2⟩ := t.owner h1 hk
   exact ⟨q, by omega, q2⟩
  ·exact ⟨j, by omega, by omega, h2⟩
structure StepG (P : Program) (S : Nat → SD) (ops : Array Oper) (j : Nat) (o : Oper) (pre : Nat) (G h1 : H) : Prop where
 nx : G.next = (S j).h.next
 nx1 : h1.next = (S (j + 1)).h.next
 g1 : ∀ k b, G.get k = some b → k < (S j).h.next ∧ (S j).h.get k = some b ∧ (S (j + 1)).rd = true ∧ ∀ q, q < j → (S q).h.next ≤ k → k < (S (q + 1)).h.next → pre.testBit q = true
 g2 : ∀ k b, (S j).h.next ≤ k → (S (j + 1)).h.get k = some b → h1.get k = some b
 g3 : ∀ k, G.live k → (S (j + 1)).h.get k = h1.get k
 g4 : ∀ k, k < (S j).h.next → ¬ G.live k → (S (j + 1)).h.get k = (S j).h.get k
 g5 : (S (j + 1)).wr = false → ∀ k, G.live k → h1.get k = G.get k
 low : ∀ k, G.live k → h1.low ≤ k → (S (j + 1)).h.low ≤ k
 bd : (S j).h.next ≤ 1000000
 wp : ∀ (F : Fence) (_ : FC F) (Q : Exit → Act → World → Prop) (K : Act → World → Prop) (A : Nat → Prop) (ρ : Nat → Nat) (w : World) (a : Act), Rel P A ρ w G → Dj A G h1 → (∀ u, u ∈ looks ops o → VR P A ρ w (CO.ev (S j).tm (CO.t u)) (a.tmps.getD u undef)) →
  (∀ u w' ρ', Post P A ρ w G ρ' w' h1 → VR P (Ext A G h1) ρ' w' (S (j + 1)).v u → K (a.put o.dst u) w') → wpOpIn F 0 P ops Q j K a w
def bare (k : Nat) : H := ⟨k, k, [], .e⟩
theorem bare_get (k j : Nat) : (bare k).get j = none := by
 unfold H.get bare
 simp only [inForb, T.get_e]
theorem bare_live (k j : Nat) : ¬ (bare k).live j := by unfold H.live; rw [bare_get]; simp
theorem looks_hv {A : Nat → Prop} {ρ : Nat → Nat} {w : World} {a : Act} {o : Oper} {tm : Tm} (hl : ∀ u, u ∈ looks ops o → VR P A ρ w (CO.ev tm (CO.t u)) (a.tmps.getD u undef)) : HV P A ρ w tm a o := fun y hy => by
 cases y with
 | tmp u =>
  have := hl u (by
   unfold looks
   exact List.mem_append_right _ (List.mem_filterMap.2 ⟨.tmp u, by simpa using hy, rfl⟩))
  unfold OpV
  simpa [coOf, Act.eval] using this
 | const v => exact ofV_sound v
 | global g => simp only [OpV, coOf, CO.ev, VR]
 | func g =>
  show VR P A ρ w (.fn g []) (.func (.func g) #[] #[])
  simp only [VR, VRl]
  exact ⟨_, rfl, rfl⟩
theorem step_of (hrec : RecOK P rec) (hg : RecGd rec) (t : Trace rec r tm h tm' h' S) (st : Stat P n ops r) (f : Wf h) {j : Nat} {o : Oper} (ho : ops[j]? = some o) : ∃ ro G h1, r[j]? = some ro ∧ dstOk n o.dst = true ∧ (S (j + 1)).tm = putO (S j).tm o.dst (S (j + 1)).v ∧ StepG P S ops j o ro.pre G h1 := by
  obtain ⟨g, p, hr, hdst, hgd⟩ := st.row j o ho
  have hjl : j < r.length := (List.getElem?_eq_some_iff.1 hr).1
  obtain ⟨f1, _⟩ := t.gd hg f j (by omega)
  obtain ⟨ht, hcs⟩ := t.cases hr
  have hwant : ∀ (A : Nat → Prop) (ρ : Nat → Nat) (w : World) (a : Act) (b : Bool), wantR ⟨o.dst, g, (match compOp P o.op with | some x => x | none => .bad), p⟩ (S j).tm = some b → (∀ u, u ∈ looks ops o → VR P A ρ w (CO.ev (S j).tm (CO.t u)) (a.tmps.getD u undef)) → Region.wanted o (yielded ops a.tmps) = b := fun A ρ w a b hw hl => by
    refine want_sound (P := P) (A := A) (ρ := ρ) (w := w) hgd hw fun u c hc => hl u ?_
    unfold looks
    refine List.mem_append_left _ ?_
    cases hog : o.guard with
    | none => rw [hog] at hgd; simp only [Option.some.injEq] at hgd; rw [← hgd] at hc; cases hc
    | some q =>
      obtain ⟨q1, q2⟩ := q
      rw [hog] at hgd
      simp only at hgd ⊢
      obtain ⟨u', e1, e2⟩ := opt_map hgd
      rw [hc] at e2
      simp only [Option.some.injEq, Prod.mk.injEq] at e2
      rw [e1, e2.1]; simp
  rcases hcs with ⟨hw, hv, hh, hwr, hrd, _⟩ | ⟨hw, hT, hwr, hrd, _, ob, e1, e2, _⟩ | ⟨hw, hT, hrd, h1, e1, e2, e3, e4, _⟩
  · refine ⟨_, bare (S j).h.next, bare (S j).h.next, hr, hdst, ht, rfl, (by rw [hh]; rfl), (fun k b e => by rw [bare_get] at e; cases e), fun k b hk e => ?_, fun k hl => absurd hl (bare_live _ _), (fun k _ _ => by rw [hh]), fun _ k hl => absurd hl (bare_live _ _), fun k hl => absurd hl (bare_live _ _), f1.bd, fun F hF Q K A ρ w a tR hd hl hK => ?_⟩
    · rw [hh] at e
      have := f1.lt k b (get_tree e); omega
    · unfold wpOpIn
      simp only [ho]
      rw [hwant A ρ w a false hw hl, if_neg (by simp)]
      exact ⟨fun g _ => hF.fn g, hK undef w ρ (Post.refl tR) (by rw [hv]; simp only [VR])⟩
  · obtain ⟨h1, e3⟩ : ∃ h1, (bare (S j).h.next).addO ob = some h1 := by
      cases ob with
      | none => exact ⟨_, rfl⟩
      | some b =>
        have := (new_spec e2).2.2.2.1
        exact ⟨_, by
          show (bare (S j).h.next).new b = _
          unfold H.new bare
          rw [(by simpa [Nat.blt_eq] using this : Nat.blt (S j).h.next 1000000 = true)]⟩
    have hcc := x_bad (P := P) (o := o) rfl (.inr fun e5 => by
      have e6 := (congrArg (fun x => xT x (S j).tm (S j).h.next) e5).symm.trans e1
      rw [xT_bad] at e6; cases e6)
    have hn1 : h1.next = (S (j + 1)).h.next := by
      cases ob with
      | none =>
        simp only [H.addO, Option.some.injEq] at e2 e3
        rw [← e2, ← e3]; rfl
      | some b => rw [(new_spec e3).1, (new_spec e2).1]; rfl
    refine ⟨_, bare (S j).h.next, h1, hr, hdst, ht, rfl, hn1, (fun k b e => by rw [bare_get] at e; cases e), fun k b hk e => ?_, fun k hl => absurd hl (bare_live _ _), fun k hk _ => addO_get e2 hk, fun _ k hl => absurd hl (bare_live _ _), fun k hl => absurd hl (bare_live _ _), f1.bd, fun F hF Q K A ρ w a tR hd hl hK => ?_⟩
    · cases ob with
      | none =>
        simp only [H.addO, Option.some.injEq] at e2
        rw [← e2] at e
        have := f1.lt k b (get_tree e); omega
      | some b' =>
        obtain ⟨q1, q2, q3, q4, q5⟩ := new_spec e2
        obtain ⟨s1, s2, s3, s4, s5⟩ := new_spec e3
        have e' := get_tree e
        rw [q5] at e'
        split at e'
        · next hk' =>
          simp only [Option.some.injEq] at e'; subst e'
          unfold H.get
          rw [s3]
          simp only [bare, inForb]
          rw [s5]; exact if_pos hk'
        · have := f1.lt k b e'; omega
    · unfold wpOpIn
      simp only [ho]
      rw [hwant A ρ w a true hw hl, if_pos rfl]
      exact me_wp hF (compOp_defer ⟨_, hcc⟩) (t_me (h := bare (S j).h.next) hcc hT e1 e3 (looks_hv hl) tR hd) hK
  · have hcc := x_bad (P := P) (o := o) rfl (.inl hT)
    have gp := xR_gd hg (part_wf f1) e1
    have hout : ∀ k, (S j).h.next ≤ k → inForb k (forbs p (S j).iv (S j).h.forb) = inForb k (S j).h.forb := fun k hk => forbs_out fun x hx => by
      obtain ⟨q, hq, rfl⟩ := (t.iv j (by omega)).1 x hx
      have := t.mono hg f (show q + 1 ≤ j by omega) (by omega)
      simp only; omega
    refine ⟨_, (S j).h.part p (S j).iv, h1, hr, hdst, ht, rfl, (by rw [e2]; rfl), fun k b e => ⟨f1.lt k b (get_tree (part_get e)), part_get e, hrd, fun q hq q1 q2 => ?_⟩, fun k b hk e => ?_, fun k hl => ?_, fun k hk hl => ?_, fun hw0 k hl => ?_, fun k _ hlo => ?_, f1.bd, fun F hF Q K A ρ w a tR hd hl hK => ?_⟩
    · cases hp : p.testBit q with
      | true => rfl
      | false =>
        have := live_not_forb (get_live e)
        rw [show ((S j).h.part p (S j).iv).forb = forbs p (S j).iv (S j).h.forb from rfl, forbs_mem ((t.iv j (by omega)).2 q hq (by omega)) hp q1 q2] at this
        cases this
    · rw [e2] at e
      have hf := gp.good.forb
      unfold H.get at e ⊢
      rw [hf, show ((S j).h.part p (S j).iv).forb = forbs p (S j).iv (S j).h.forb from rfl, hout k hk]
      exact e
    · rw [e2]
      have hb := live_not_forb hl
      have hb2 : inForb k (S j).h.forb = false := inForb_forbs p k _ _ hb
      unfold H.get
      rw [gp.good.forb, hb]
      show (match inForb k (S j).h.forb with | true => none | false => T.get h1.t k) = _
      rw [hb2]
    · rw [e2]; exact whole_get (gp.good.dead k hk hl)
    · have hk : k < (S j).h.next := by
        obtain ⟨b, eb⟩ := Option.isSome_iff_exists.1 hl
        exact f1.lt k b (get_tree (part_get eb))
      rw [e3] at hw0
      refine get_of gp.good.forb (gp.good.keep k hk (Nat.lt_of_lt_of_le hk (Nat.le_of_not_lt fun hlt => ?_)))
      rw [← Nat.blt_eq] at hlt
      rw [hlt] at hw0; cases hw0
    · rw [e2]; exact Nat.le_trans (whole_low _ _).2 hlo
    · unfold wpOpIn
      simp only [ho]
      rw [hwant A ρ w a true hw hl, if_pos rfl]
      exact r_wp hrec hF hcc hT e1 (part_wf f1) (looks_hv hl) tR hd hK
end CI
end Go.Proofs.YtcgjmdpcplhanaaGreat
namespace Go.Proofs.YtcgjmdpcplhanaaGreat
open Go.RowKit
namespace CI
variable {P : Program} {h h' : H} {tm tm' : Tm} {rec : Rec} {n : Nat} {r : List RO} {S : Nat → SD} {ops : Array Oper} {A : Nat → Prop} {ρ ρ1 ρ2 : Nat → Nat} {w w1 w2 : World} {a : Act} {ds : List Nat} {L : Nat → Prop} {s j : Nat}
def AL (A : Nat → Prop) (S : Nat → SD) (L : Nat → Prop) (k : Nat) : Prop := A k ∨ ∃ i, L i ∧ (S i).h.next ≤ k ∧ k < (S (i + 1)).h.next
def Lv (S : Nat → SD) (L : Nat → Prop) (s k : Nat) (b : B) : Prop := (k < (S 0).h.next ∧ (S s).h.get k = some b) ∨ ∃ i, L i ∧ (S i).h.next ≤ k ∧ k < (S (i + 1)).h.next ∧ (S (max s (i + 1))).h.get k = some b
structure Inv (P : Program) (S : Nat → SD) (ops : Array Oper) (r : List RO) (h' : H) (n : Nat) (ds : List Nat) (A : Nat → Prop) (ρ : Nat → Nat) (w : World) (L : Nat → Prop) (s : Nat) (ρ1 : Nat → Nat) (a : Act) (w1 : World) : Prop where
 cl : ∀ i ro q, L i → r[i]? = some ro → ro.pre.testBit q = true → L q
 lN : ∀ i, L i → i < r.length
 s0 : s ≤ r.length
 sl : ∀ i, i < s → (S (i + 1)).wr = true → L i
 sr : ∀ i, s ≤ i → i < r.length → (S (i + 1)).wr = true → ¬ L i
 tmv : ∀ t, (∃ i o, L i ∧ ops[i]? = some o ∧ o.dst = some t ∧ (∀ i' o', L i' → i < i' → ops[i']? = some o' → o'.dst ≠ some t) ∧ VR P (AL A S L) ρ1 w1 (S (i + 1)).v (a.tmps.getD t undef)) ∨
  ((∀ i o, L i → ops[i]? = some o → o.dst ≠ some t) ∧ VR P (AL A S L) ρ1 w1 (CO.ev (S 0).tm (CO.t t)) (a.tmps.getD t undef))
 sz : a.tmps.size = n
 df : a.defers = ds.map (coll ρ)
 blk : ∀ k b, Lv S L s k b → ρ1 k < w1.heap.size ∧ BR P (AL A S L) ρ1 w1 (ρ1 k) b
 inj : ∀ k b k' b', Lv S L s k b → Lv S L s k' b' → ρ1 k = ρ1 k' → k = k'
 lt : Lt w w1
 fr : ∀ b, b < w.heap.size → (∀ k, (S 0).h.live k → h'.low ≤ k → ρ k ≠ b) → w1.heap[b]? = w.heap[b]?
 rho : ∀ k, (k < (S 0).h.next ∨ h'.next ≤ k) → ρ1 k = ρ k
 new : ∀ k b, Lv S L s k b → (S 0).h.next ≤ k → w.heap.size ≤ ρ1 k ∨ ∃ i, (S 0).h.live i ∧ h'.low ≤ i ∧ ρ1 k = ρ i
theorem tm_at (t : Trace rec r tm h tm' h' S) (st : Stat P n ops r) (hn : n < 1000000) (u : Nat) : ∀ j, j ≤ r.length → (∃ i o, i < j ∧ ops[i]? = some o ∧ o.dst = some u ∧ (∀ i' o', i' < j → i < i' → ops[i']? = some o' → o'.dst ≠ some u) ∧ CO.ev (S j).tm (CO.t u) = (S (i + 1)).v) ∨
    ((∀ i o, i < j → ops[i]? = some o → o.dst ≠ some u) ∧ CO.ev (S j).tm (CO.t u) = CO.ev (S 0).tm (CO.t u))
  | 0, _ => .inr ⟨fun i o hi => by omega, rfl⟩
  | j + 1, hj => by
    have hjo : j < ops.size := by rw [← st.len]; omega
    obtain ⟨o, ho⟩ : ∃ o, ops[j]? = some o := ⟨_, Array.getElem?_eq_getElem hjo⟩
    obtain ⟨g, p, hr, hdst, _⟩ := st.row j o ho
    have ht := (t.cases hr).1
    have ih := tm_at t st hn u j (by omega)
    by_cases hd : o.dst = some u
    · refine .inl ⟨j, o, by omega, ho, hd, fun i' o' h1 h2 => by omega, ?_⟩
      have hu : u < n := by rw [hd] at hdst; simpa [dstOk, Nat.blt_eq] using hdst
      rw [ht]
      simp only [putO, hd]
      rw [ev_put (t := u) (by omega), if_pos rfl]
    · have hsame : CO.ev (S (j + 1)).tm (CO.t u) = CO.ev (S j).tm (CO.t u) := by
        rw [ht]
        cases hdd : o.dst with
        | none => rfl
        | some v =>
          have hv : v < n := by rw [hdd] at hdst; simpa [dstOk, Nat.blt_eq] using hdst
          simp only [putO]
          rw [ev_put (t := v) (Nat.lt_trans hv hn), if_neg (fun e => hd (by rw [hdd, e]))]
      rcases ih with ⟨i, o', h1, h2, h3, h4, h5⟩ | ⟨h1, h2⟩
      · refine .inl ⟨i, o', by omega, h2, h3, fun i' o'' k1 k2 k3 => ?_, by rw [hsame, h5]⟩
        rcases Nat.lt_succ_iff_lt_or_eq.1 k1 with k | k
        · exact h4 i' o'' k k2 k3
        · subst k; rw [ho] at k3; simp only [Option.some.injEq] at k3; rw [← k3]; exact hd
      · refine .inr ⟨fun i o' k1 k2 => ?_, by rw [hsame, h2]⟩
        rcases Nat.lt_succ_iff_lt_or_eq.1 k1 with k | k
        · exact h1 i o' k k2
        · subst k; rw [ho] at k2; simp only [Option.some.injEq] at k2; rw [← k2]; exact hd
section
variable (t : Trace rec r tm h tm' h' S) (st : Stat P n ops r) (hg : RecGd rec) (f : Wf h)
theorem Inv.slots (I : Inv P S ops r h' n ds A ρ w L s ρ1 a w1) (t : Trace rec r tm h tm' h' S) (st : Stat P n ops r) (hn : n < 1000000) {o : Oper} {ro : RO} (ho : ops[j]? = some o) (hr : r[j]? = some ro) (hj : ¬ L j) (hpre : ∀ q, ro.pre.testBit q = true → L q) : ∀ u, u ∈ looks ops o → VR P (AL A S L) ρ1 w1 (CO.ev (S j).tm (CO.t u)) (a.tmps.getD u undef) := fun u hu => by
  have hjl : j < r.length := (List.getElem?_eq_some_iff.1 hr).1
  have later : ∀ i o', L i → j < i → ops[i]? = some o' → o'.dst ≠ some u := fun i o' hL hji hi hd => by
    obtain ⟨ro', hro'⟩ : ∃ ro', r[i]? = some ro' := ⟨_, List.getElem?_eq_getElem (I.lN i hL)⟩
    exact hj (I.cl i ro' j hL hro' (st.tmp j i o o' ro' u hji ho hi hro' (.inr (.inl ⟨hd, hu⟩))))
  rcases tm_at t st hn u j (by omega) with ⟨i, o', h1, h2, h3, h4, h5⟩ | ⟨h1, h2⟩
  · have hLi : L i := hpre i (st.tmp i j o' o ro u h1 h2 ho hr (.inl ⟨h3, hu⟩))
    rw [h5]
    rcases I.tmv u with ⟨i', o'', k1, k2, k3, k4, k5⟩ | ⟨k1, k2⟩
    · have : i' = i := by
        rcases Nat.lt_trichotomy i i' with e | e | e
        · exfalso
          rcases Nat.lt_trichotomy i' j with e2 | e2 | e2
          · exact h4 i' o'' e2 e k2 k3
          · exact hj (e2 ▸ k1)
          · exact later i' o'' k1 e2 k2 k3
        · exact e.symm
        · exact absurd h3 (k4 i o' hLi e h2)
      subst this; exact k5
    · exact absurd h3 (k1 i o' hLi h2)
  · rw [h2]
    rcases I.tmv u with ⟨i', o'', k1, k2, k3, k4, k5⟩ | ⟨k1, k2⟩
    · exfalso
      rcases Nat.lt_trichotomy i' j with e2 | e2 | e2
      · exact h1 i' o'' e2 k2 k3
      · exact hj (e2 ▸ k1)
      · exact later i' o'' k1 e2 k2 k3
    · exact k2
theorem Inv.quiet (I : Inv P S ops r h' n ds A ρ w L s ρ1 a w1) (t : Trace rec r tm h tm' h' S) {ro : RO} (hr : r[j]? = some ro) (hj : ¬ L j) (hpre : ∀ q, ro.pre.testBit q = true → L q) (hrd : (S (j + 1)).rd = true) :
  (∀ i, s ≤ i → i < j → (S (i + 1)).wr = false) ∧ (∀ i, j ≤ i → i < s → (S (i + 1)).wr = false) := by
 have hjl : j < r.length := (List.getElem?_eq_some_iff.1 hr).1
 refine ⟨fun i h1 h2 => ?_, fun i h1 h2 => ?_⟩
 ·cases hw : (S (i + 1)).wr with
  | false => rfl
  | true => exact absurd (hpre i (t.bound h2 hr (.inl ⟨hw, hrd⟩))) (I.sr i h1 (by omega) hw)
 ·cases hw : (S (i + 1)).wr with
  | false => rfl
  | true =>
   exfalso
   have hLi := I.sl i h2 hw
   have hne : i ≠ j := fun e => hj (e ▸ hLi)
   obtain ⟨ro', hro'⟩ : ∃ ro', r[i]? = some ro' := ⟨_, List.getElem?_eq_getElem (I.lN i hLi)⟩
   exact hj (I.cl i ro' j hLi hro' (t.bound (by omega) hro' (.inr ⟨hrd, hw⟩)))
theorem stage_old (t : Trace rec r tm h tm' h' S) (hg : RecGd rec) (f : Wf h) {x y k : Nat} (hxy : x ≤ y) (hy : y ≤ r.length) (hk : k < (S x).h.next) (hw : ∀ i, x ≤ i → i < y → (S (i + 1)).wr = false) : (S y).h.get k = (S x).h.get k :=
 stay hxy fun i h1 h2 => t.keepW hg f (by omega) (hw i h1 h2) (Nat.lt_of_lt_of_le hk (t.mono hg f h1 (by omega)))
end
end CI
end Go.Proofs.YtcgjmdpcplhanaaGreat
namespace Go.Proofs.YtcgjmdpcplhanaaGreat
open Go.RowKit
namespace CI
variable {P : Program} {h h' : H} {tm tm' : Tm} {rec : Rec} {n : Nat} {r : List RO} {S : Nat → SD} {ops : Array Oper} {A : Nat → Prop} {ρ ρ1 ρ2 : Nat → Nat} {w w1 w2 : World} {a : Act} {ds : List Nat} {L : Nat → Prop} {s j : Nat} {o : Oper} {ro : RO} {G h1 : H}
structure Meet (rec : Rec) (P : Program) (S : Nat → SD) (ops : Array Oper) (r : List RO) (tm : Tm) (h : H) (tm' : Tm) (h' : H) (n : Nat) (A : Nat → Prop) (L : Nat → Prop) (j : Nat) (o : Oper) (ro : RO) (G h1 : H) : Prop where
 t : Trace rec r tm h tm' h' S
 st : Stat P n ops r
 hg : RecGd rec
 f : Wf h
 hn : n < 1000000
 ho : ops[j]? = some o
 hr : r[j]? = some ro
 hj : ¬ L j
 pre : ∀ q, ro.pre.testBit q = true → L q
 dst : dstOk n o.dst = true
 sg : StepG P S ops j o ro.pre G h1
 dj : Dj A h h'
 nm : ∀ k, h.live k → A k
theorem Lv.uniq (t : Trace rec r tm h tm' h' S) (hg : RecGd rec) (f : Wf h) (hL : ∀ i, L i → i < r.length) {k : Nat} {b b' : B} (e : Lv S L s k b) (e' : Lv S L s k b') : b = b' := by
  have m0 : ∀ i, L i → (S 0).h.next ≤ (S i).h.next := fun i hi => t.mono hg f (Nat.zero_le _) (Nat.le_of_lt (hL i hi))
  rcases e with ⟨h1, e⟩ | ⟨i, hi, a1, a2, e⟩ <;> rcases e' with ⟨h1', e'⟩ | ⟨i', hi', a1', a2', e'⟩
  · rw [e] at e'; simpa using e'
  · have := m0 i' hi'; omega
  · have := m0 i hi; omega
  · have : i = i' := by
      rcases Nat.lt_trichotomy i i' with x | x | x
      · have := t.mono hg f (show i + 1 ≤ i' from x) (Nat.le_of_lt (hL i' hi')); omega
      · exact x
      · have := t.mono hg f (show i' + 1 ≤ i from x) (Nat.le_of_lt (hL i hi)); omega
    subst this
    rw [e] at e'; simpa using e'
section
variable (M : Meet rec P S ops r tm h tm' h' n A L j o ro G h1)
theorem Meet.jl (M : Meet rec P S ops r tm h tm' h' n A L j o ro G h1) : j < r.length := (List.getElem?_eq_some_iff.1 M.hr).1
theorem Meet.mono (M : Meet rec P S ops r tm h tm' h' n A L j o ro G h1) {x y : Nat} (h1 : x ≤ y) (h2 : y ≤ r.length) : (S x).h.next ≤ (S y).h.next := M.t.mono M.hg M.f h1 h2
theorem Inv.g_lv (I : Inv P S ops r h' n ds A ρ w L s ρ1 a w1) (M : Meet rec P S ops r tm h tm' h' n A L j o ro G h1) {k : Nat} {b : B} (e : G.get k = some b) : Lv S L s k b := by
 obtain ⟨k1, k2, k3, k4⟩ := M.sg.g1 k b e
 obtain ⟨q1, q2⟩ := I.quiet M.t M.hr M.hj M.pre k3
 have jl := M.jl
 by_cases hk : k < (S 0).h.next
 ·refine .inl ⟨hk, ?_⟩
  rcases Nat.le_total s j with hs | hs
  ·rw [← stage_old M.t M.hg M.f hs (by omega) (Nat.lt_of_lt_of_le hk (M.mono (Nat.zero_le _) I.s0)) q1]; exact k2
  ·rw [stage_old M.t M.hg M.f hs I.s0 k1 q2]; exact k2
 ·obtain ⟨q, hq, a1, a2⟩ := M.t.owner (Nat.le_of_not_lt hk) k1
  refine .inr ⟨q, M.pre q (k4 q hq a1 a2), a1, a2, ?_⟩
  rcases Nat.le_total s j with hs | hs
  ·rw [← stage_old M.t M.hg M.f (x := max s (q + 1)) (y := j) (by omega) (by omega) (Nat.lt_of_lt_of_le a2 (M.mono (by omega) (by omega))) (fun i i1 i2 => q1 i (by omega) i2)]; exact k2
  ·rw [show max s (q + 1) = s by omega, stage_old M.t M.hg M.f hs I.s0 k1 q2]; exact k2
theorem Inv.nmA (I : Inv P S ops r h' n ds A ρ w L s ρ1 a w1) (M : Meet rec P S ops r tm h tm' h' n A L j o ro G h1) {k : Nat} {b : B} (e : Lv S L s k b) : AL A S L k := by
 rcases e with ⟨hk, e⟩ | ⟨i, hi, a1, a2, _⟩
 ·refine .inl (M.nm k ?_)
  have g := (M.t.gd M.hg M.f s I.s0).2
  rw [M.t.h0] at hk
  exact g.good.back hk (get_live e)
 ·exact .inr ⟨i, hi, a1, a2⟩
theorem Inv.rel (I : Inv P S ops r h' n ds A ρ w L s ρ1 a w1) (M : Meet rec P S ops r tm h tm' h' n A L j o ro G h1) : Rel P (AL A S L) ρ1 w1 G := by
 refine ⟨fun k b e => ?_, fun k k' hl hl' e => ?_, by rw [M.sg.nx]; exact M.sg.bd⟩
 ·have hlv := I.g_lv M e
  obtain ⟨b1, b2⟩ := I.blk k b hlv
  exact ⟨by rw [M.sg.nx]; exact (M.sg.g1 k b e).1, I.nmA M hlv, b1, b2⟩
 ·obtain ⟨b, eb⟩ := Option.isSome_iff_exists.1 hl
  obtain ⟨b', eb'⟩ := Option.isSome_iff_exists.1 hl'
  exact I.inj k b k' b' (I.g_lv M eb) (I.g_lv M eb') e
theorem Inv.dj (I : Inv P S ops r h' n ds A ρ w L s ρ1 a w1) (M : Meet rec P S ops r tm h tm' h' n A L j o ro G h1) : Dj (AL A S L) G h1 := fun k hk => by
 have jl := M.jl
 rw [M.sg.nx, M.sg.nx1]
 rcases hk with hk | ⟨i, hi, a1, a2⟩
 ·have e1 : (S 0).h.next = h.next := by rw [M.t.h0]
  have e2 : (S r.length).h.next = h'.next := by rw [M.t.hN]
  have m1 := M.mono (Nat.zero_le j) (by omega)
  have m2 := M.mono (show j + 1 ≤ r.length by omega) (Nat.le_refl _)
  have := M.dj k hk
  omega
 ·rcases Nat.lt_trichotomy i j with x | x | x
  ·have := M.mono (show i + 1 ≤ j from x) (by omega); omega
  ·exact absurd (x ▸ hi) M.hj
  ·have := M.mono (show j + 1 ≤ i from x) (Nat.le_of_lt (I.lN i hi)); omega
def nextS (S : Nat → SD) (s j : Nat) : Nat := if (S (j + 1)).wr = true then j + 1 else s
theorem Inv.lv_next (I : Inv P S ops r h' n ds A ρ w L s ρ1 a w1) (M : Meet rec P S ops r tm h tm' h' n A L j o ro G h1) {k : Nat} {b : B} (e : Lv S (fun i => L i ∨ i = j) (nextS S s j) k b) :
    (h1.get k = some b ∧ (G.live k ∨ ((S j).h.next ≤ k ∧ k < (S (j + 1)).h.next))) ∨ (¬ G.live k ∧ ¬ ((S j).h.next ≤ k ∧ k < (S (j + 1)).h.next) ∧ Lv S L s k b) := by
  have jl := M.jl
  have hwr : (S (j + 1)).wr = true → s ≤ j ∧ ∀ i, s ≤ i → i < j → (S (i + 1)).wr = false := fun hw =>
    ⟨Nat.le_of_not_lt fun hlt => M.hj (I.sl j hlt hw), (I.quiet M.t M.hr M.hj M.pre (M.t.wr_rd jl hw)).1⟩
  have hs' : ((S (j + 1)).wr = true ∧ nextS S s j = j + 1) ∨ ((S (j + 1)).wr = false ∧ nextS S s j = s) := by
    unfold nextS
    cases hw : (S (j + 1)).wr with
    | true => exact .inl ⟨rfl, by simp⟩
    | false => exact .inr ⟨rfl, by simp⟩
  have hlive : G.live k → (S (j + 1)).wr = false → Lv S L s k b → h1.get k = some b := fun hG hw hl => by
    obtain ⟨b0, eb⟩ := Option.isSome_iff_exists.1 hG
    have := Lv.uniq M.t M.hg M.f I.lN hl (I.g_lv M eb)
    rw [M.sg.g5 hw k hG, eb, this]
  rcases e with ⟨hk, e⟩ | ⟨i, hi, a1, a2, e⟩
  · have hkj : k < (S j).h.next := Nat.lt_of_lt_of_le hk (M.mono (Nat.zero_le _) (by omega))
    by_cases hG : G.live k
    · refine .inl ⟨?_, .inl hG⟩
      rcases hs' with ⟨hw, hs⟩ | ⟨hw, hs⟩
      · rw [hs, M.sg.g3 k hG] at e; exact e
      · rw [hs] at e; exact hlive hG hw (.inl ⟨hk, e⟩)
    · refine .inr ⟨hG, by omega, .inl ⟨hk, ?_⟩⟩
      rcases hs' with ⟨hw, hs⟩ | ⟨hw, hs⟩
      · obtain ⟨q1, q2⟩ := hwr hw
        rw [hs, M.sg.g4 k hkj hG, stage_old M.t M.hg M.f q1 (by omega) (Nat.lt_of_lt_of_le hk (M.mono (Nat.zero_le _) I.s0)) q2] at e; exact e
      · rw [hs] at e; exact e
  · rcases hi with hi | hi
    · have hij : i ≠ j := fun x => M.hj (x ▸ hi)
      have hni : ¬ ((S j).h.next ≤ k ∧ k < (S (j + 1)).h.next) := fun hx => by
        rcases Nat.lt_or_gt_of_ne hij with x | x
        · have := M.mono (show i + 1 ≤ j from x) (by omega); omega
        · have := M.mono (show j + 1 ≤ i from x) (Nat.le_of_lt (I.lN i hi)); omega
      by_cases hG : G.live k
      · obtain ⟨b0, eb⟩ := Option.isSome_iff_exists.1 hG
        have hkj := (M.sg.g1 k b0 eb).1
        have hlt : i < j := by
          rcases Nat.lt_or_gt_of_ne hij with x | x
          · exact x
          · have h1 := M.mono (show j + 1 ≤ i from x) (Nat.le_of_lt (I.lN i hi))
            have h2 := M.mono (show j ≤ j + 1 by omega) (by omega)
            omega
        refine .inl ⟨?_, .inl hG⟩
        rcases hs' with ⟨hw, hs⟩ | ⟨hw, hs⟩
        · rw [hs, show max (j + 1) (i + 1) = j + 1 by omega, M.sg.g3 k hG] at e; exact e
        · rw [hs] at e; exact hlive hG hw (.inr ⟨i, hi, a1, a2, e⟩)
      · refine .inr ⟨hG, hni, .inr ⟨i, hi, a1, a2, ?_⟩⟩
        rcases hs' with ⟨hw, hs⟩ | ⟨hw, hs⟩
        · obtain ⟨q1, q2⟩ := hwr hw
          rcases Nat.lt_or_gt_of_ne hij with x | x
          · rw [hs, show max (j + 1) (i + 1) = j + 1 by omega, M.sg.g4 k (Nat.lt_of_lt_of_le a2 (M.mono (show i + 1 ≤ j from x) (by omega))) hG,
              stage_old M.t M.hg M.f (x := max s (i + 1)) (y := j) (by omega) (by omega) (Nat.lt_of_lt_of_le a2 (M.mono (by omega) (by omega))) (fun i' i1 i2 => q2 i' (by omega) i2)] at e
            exact e
          · rw [hs, show max (j + 1) (i + 1) = max s (i + 1) by omega] at e; exact e
        · rw [hs] at e; exact e
    · subst hi
      refine .inl ⟨?_, .inr ⟨a1, a2⟩⟩
      rcases hs' with ⟨hw, hs⟩ | ⟨hw, hs⟩
      · rw [hs, show max (i + 1) (i + 1) = i + 1 by omega] at e
        exact M.sg.g2 k b a1 e
      · rw [hs, stay (x := i + 1) (y := max s (i + 1)) (by omega) (fun x x1 x2 => ?_)] at e
        · exact M.sg.g2 k b a1 e
        · have hxs : x < s := by omega
          have hxr : x < r.length := Nat.lt_of_lt_of_le hxs I.s0
          cases hwx : (S (x + 1)).wr with
          | false => exact M.t.keepW M.hg M.f hxr hwx (Nat.lt_of_lt_of_le a2 (M.mono x1 (by omega)))
          | true =>
            obtain ⟨rx, hrx⟩ : ∃ rx, r[x]? = some rx := ⟨_, List.getElem?_eq_getElem hxr⟩
            refine M.t.keepO M.hg M.f hrx (show i < x by omega) ?_ a1 a2
            cases hp : rx.pre.testBit i with
            | false => rfl
            | true => exact absurd (I.cl x rx i (I.sl x hxs hwx) hrx hp) M.hj
end
end CI
end Go.Proofs.YtcgjmdpcplhanaaGreat
namespace Go.Proofs.YtcgjmdpcplhanaaGreat
open Go.RowKit
namespace CI
variable {P : Program} {h h' : H} {tm tm' : Tm} {rec : Rec} {n : Nat} {r : List RO} {S : Nat → SD} {ops : Array Oper} {A : Nat → Prop} {ρ ρ1 ρ2 : Nat → Nat} {w w1 w2 : World} {a : Act} {ds : List Nat} {L : Nat → Prop} {s j : Nat} {o : Oper} {ro : RO} {G h1 : H}
theorem put_other {dst : Option Tmp} {t : Nat} {u : Value} (h : dst ≠ some t) : (a.put dst u).tmps.getD t undef = a.tmps.getD t undef := by
 cases dst with
 | none => rfl
 | some d =>
  have hne : d ≠ t := fun e => h (by rw [e])
  simp only [Act.put, Array.getD_eq_getD_getElem?, Array.getElem?_setIfInBounds_ne hne]
theorem put_same {t : Nat} {u : Value} (ht : t < a.tmps.size) : (a.put (some t) u).tmps.getD t undef = u := by
 simp only [Act.put, Array.getD_eq_getD_getElem?, Array.getElem?_setIfInBounds]
 simp [ht]
theorem Inv.step (I : Inv P S ops r h' n ds A ρ w L s ρ1 a w1) (M : Meet rec P S ops r tm h tm' h' n A L j o ro G h1) {u : Value} (p : Post P (AL A S L) ρ1 w1 G ρ2 w2 h1) (hu : VR P (Ext (AL A S L) G h1) ρ2 w2 (S (j + 1)).v u) :
    Inv P S ops r h' n ds A ρ w (fun i => L i ∨ i = j) (nextS S s j) ρ2 (a.put o.dst u) w2 := by
  have jl := M.jl
  have hdj := I.dj M
  have hmo : Mo (AL A S L) (AL A S fun i => L i ∨ i = j) ρ1 ρ2 := ⟨fun k hk => hk.imp id fun ⟨i, hi, hx⟩ => ⟨i, .inl hi, hx⟩, (p.mo hdj).eq⟩
  have hmo2 : Mo (Ext (AL A S L) G h1) (AL A S fun i => L i ∨ i = j) ρ2 ρ2 := ⟨fun k hk => by
    rcases hk with hk | hk
    · exact hmo.sub k hk
    · rw [M.sg.nx, M.sg.nx1] at hk
      exact .inr ⟨j, .inr rfl, hk⟩, fun _ _ => rfl⟩
  have hs' : ((S (j + 1)).wr = true ∧ nextS S s j = j + 1) ∨ ((S (j + 1)).wr = false ∧ nextS S s j = s) := by
    unfold nextS
    cases hw : (S (j + 1)).wr with
    | true => exact .inl ⟨rfl, by simp⟩
    | false => exact .inr ⟨rfl, by simp⟩
  have after : ∀ i, L i → ∀ rx, r[i]? = some rx → rx.pre.testBit j = true → False := fun i hi rx hrx hp => M.hj (I.cl i rx j hi hrx hp)
  have hframe : ∀ k b, Lv S L s k b → ¬ G.live k → w2.heap[ρ1 k]? = w1.heap[ρ1 k]? := fun k b hl hG => p.fr _ (I.blk k b hl).1 fun k' hl' _ e => by
    obtain ⟨b', eb'⟩ := Option.isSome_iff_exists.1 hl'
    have := I.inj k' b' k b (I.g_lv M eb') hl e
    subst this; exact hG hl'
  have hrho : ∀ k b, Lv S L s k b → ρ2 k = ρ1 k := fun k b hl => hmo.eq k (I.nmA M hl)
  have hbN : h'.next = (S r.length).h.next := by rw [M.t.hN]
  refine ⟨fun i rx q hi hrx hp => ?_, fun i hi => ?_, ?_, fun i hi hw => ?_, fun i hi hir hw hL => ?_, fun t => ?_, ?_, ?_, fun k b e => ?_, fun k b k' b' e e' hk => ?_, I.lt.trans p.lt, fun b hb hn => ?_, fun k hk => ?_, fun k b e hk => ?_⟩
  · rcases hi with hi | hi
    · exact .inl (I.cl i rx q hi hrx hp)
    · subst hi
      rw [M.hr] at hrx
      simp only [Option.some.injEq] at hrx; subst hrx
      exact .inl (M.pre q hp)
  · rcases hi with hi | hi
    · exact I.lN i hi
    · rw [hi]; exact jl
  · rcases hs' with ⟨_, e⟩ | ⟨_, e⟩ <;> rw [e]
    · exact jl
    · exact I.s0
  · rcases hs' with ⟨hwj, e⟩ | ⟨_, e⟩ <;> rw [e] at hi
    · rcases Nat.lt_succ_iff_lt_or_eq.1 hi with x | x
      · exact .inl (M.pre i (M.t.bound x M.hr (.inl ⟨hw, M.t.wr_rd jl hwj⟩)))
      · exact .inr x
    · exact .inl (I.sl i hi hw)
  · rcases hs' with ⟨hwj, e⟩ | ⟨hwj, e⟩ <;> rw [e] at hi
    · rcases hL with hL | hL
      · obtain ⟨rx, hrx⟩ : ∃ rx, r[i]? = some rx := ⟨_, List.getElem?_eq_getElem hir⟩
        exact after i hL rx hrx (M.t.bound (show j < i by omega) hrx (.inl ⟨hwj, M.t.wr_rd hir hw⟩))
      · omega
    · rcases hL with hL | hL
      · exact I.sr i hi hir hw hL
      · subst hL; rw [hw] at hwj; cases hwj
  · by_cases hd : o.dst = some t
    · have ht : t < n := by have := M.dst; rw [hd] at this; simpa [dstOk, Nat.blt_eq] using this
      refine .inl ⟨j, o, .inr rfl, M.ho, hd, fun i' o' hi' hlt ho' hd' => ?_, ?_⟩
      · rcases hi' with hi' | hi'
        · obtain ⟨rx, hrx⟩ : ∃ rx, r[i']? = some rx := ⟨_, List.getElem?_eq_getElem (I.lN i' hi')⟩
          exact after i' hi' rx hrx (M.st.tmp j i' o o' rx t hlt M.ho ho' hrx (.inr (.inr ⟨hd', hd⟩)))
        · omega
      · rw [hd, put_same (by rw [I.sz]; exact ht)]
        exact VR.mo hmo2 (Lt.refl _) _ _ hu
    · rw [put_other hd]
      rcases I.tmv t with ⟨i, o', q1, q2, q3, q4, q5⟩ | ⟨q1, q2⟩
      · refine .inl ⟨i, o', .inl q1, q2, q3, fun i' o'' hi' hlt ho' => ?_, VR.mo hmo p.lt _ _ q5⟩
        rcases hi' with hi' | hi'
        · exact q4 i' o'' hi' hlt ho'
        · subst hi'; rw [M.ho] at ho'; simp only [Option.some.injEq] at ho'; rw [← ho']; exact hd
      · refine .inr ⟨fun i' o'' hi' ho' => ?_, VR.mo hmo p.lt _ _ q2⟩
        rcases hi' with hi' | hi'
        · exact q1 i' o'' hi' ho'
        · subst hi'; rw [M.ho] at ho'; simp only [Option.some.injEq] at ho'; rw [← ho']; exact hd
  · have := I.sz
    cases o.dst <;> simp [Act.put, this]
  · have := I.df
    cases o.dst <;> simp [Act.put, this]
  · rcases I.lv_next M e with ⟨e1, _⟩ | ⟨hG, _, hl⟩
    · obtain ⟨_, _, b1, b2⟩ := p.rel.blk k b e1
      exact ⟨b1, b2.mo hmo2 (Lt.refl _) rfl⟩
    · obtain ⟨b1, b2⟩ := I.blk k b hl
      rw [hrho k b hl]
      exact ⟨Nat.lt_of_lt_of_le b1 p.lt.size, b2.mo hmo p.lt (hframe k b hl hG)⟩
  · have key : ∀ x y bx, h1.get x = some bx → (G.live x ∨ ((S j).h.next ≤ x ∧ x < (S (j + 1)).h.next)) → ∀ by', ¬ G.live y → Lv S L s y by' → ρ2 x = ρ2 y → x = y := fun x y bx ex hx by' hy hly hxy => by
      rw [hrho y by' hly] at hxy
      rcases hx with hx | hx
      · obtain ⟨b0, eb⟩ := Option.isSome_iff_exists.1 hx
        have hlx := I.g_lv M eb
        rw [hrho x b0 hlx] at hxy
        exact I.inj x b0 y by' hlx hly hxy
      · rcases p.new x (by rw [M.sg.nx]; exact hx.1) (get_live ex) with q | ⟨i, q1, q2, q3⟩
        · have := (I.blk y by' hly).1; omega
        · exfalso
          obtain ⟨b0, eb⟩ := Option.isSome_iff_exists.1 q1
          have := I.inj i b0 y by' (I.g_lv M eb) hly (q3.symm.trans hxy)
          subst this; exact hy q1
    rcases I.lv_next M e with ⟨e1, x1⟩ | ⟨hG, _, hl⟩ <;> rcases I.lv_next M e' with ⟨e1', x1'⟩ | ⟨hG', _, hl'⟩
    · exact p.rel.inj k k' (get_live e1) (get_live e1') hk
    · exact key k k' b e1 x1 b' hG' hl' hk
    · exact (key k' k b' e1' x1' b hG hl hk.symm).symm
    · rw [hrho k b hl, hrho k' b' hl'] at hk
      exact I.inj k b k' b' hl hl' hk
  · rw [p.fr b (Nat.lt_of_lt_of_le hb I.lt.size) fun k hl hlo hk => ?_, I.fr b hb hn]
    obtain ⟨b0, eb⟩ := Option.isSome_iff_exists.1 hl
    have hlv := I.g_lv M eb
    have hlow : h'.low ≤ k := by
      have h2 := M.t.low M.hg M.f (show j + 1 ≤ r.length by omega) (Nat.le_refl _)
      rw [M.t.hN] at h2
      exact Nat.le_trans h2 (M.sg.low k hl hlo)
    by_cases hk0 : k < (S 0).h.next
    · rw [I.rho k (.inl hk0)] at hk
      refine hn k ?_ hlow hk
      rcases hlv with ⟨_, e⟩ | ⟨i, hi, a1, _⟩
      · have g := (M.t.gd M.hg M.f s I.s0).2
        rw [M.t.h0] at hk0 ⊢
        exact g.good.back hk0 (get_live e)
      · have := M.mono (Nat.zero_le i) (Nat.le_of_lt (I.lN i hi)); omega
    · rcases I.new k b0 hlv (Nat.le_of_not_lt hk0) with q | ⟨i, q1, q2, q3⟩
      · omega
      · exact hn i q1 q2 (q3.symm.trans hk)
  · have m1 := M.mono (Nat.zero_le j) (by omega)
    have m2 := M.mono (show j + 1 ≤ r.length by omega) (Nat.le_refl _)
    rw [p.rho k (by rw [M.sg.nx, M.sg.nx1]; omega), I.rho k hk]
  · rcases I.lv_next M e with ⟨e1, x1⟩ | ⟨hG, _, hl⟩
    · rcases x1 with x1 | x1
      · obtain ⟨b0, eb⟩ := Option.isSome_iff_exists.1 x1
        have hlv := I.g_lv M eb
        rw [hrho k b0 hlv]
        exact I.new k b0 hlv hk
      · rcases p.new k (by rw [M.sg.nx]; exact x1.1) (get_live e1) with q | ⟨i, q1, q2, q3⟩
        · exact .inl (Nat.le_trans I.lt.size q)
        · obtain ⟨b0, eb⟩ := Option.isSome_iff_exists.1 q1
          have hlv := I.g_lv M eb
          have hlow : h'.low ≤ i := by
            have h2 := M.t.low M.hg M.f (show j + 1 ≤ r.length by omega) (Nat.le_refl _)
            rw [M.t.hN] at h2
            exact Nat.le_trans h2 (M.sg.low i q1 q2)
          rw [q3]
          by_cases hi0 : i < (S 0).h.next
          · refine .inr ⟨i, ?_, hlow, I.rho i (.inl hi0)⟩
            rcases hlv with ⟨_, e⟩ | ⟨i', hi', a1, _⟩
            · have g := (M.t.gd M.hg M.f s I.s0).2
              rw [M.t.h0] at hi0 ⊢
              exact g.good.back hi0 (get_live e)
            · have := M.mono (Nat.zero_le i') (Nat.le_of_lt (I.lN i' hi')); omega
          · exact I.new i b0 hlv (Nat.le_of_not_lt hi0)
    · rw [hrho k b hl]
      exact I.new k b hl hk
end CI
end Go.Proofs.YtcgjmdpcplhanaaGreat
