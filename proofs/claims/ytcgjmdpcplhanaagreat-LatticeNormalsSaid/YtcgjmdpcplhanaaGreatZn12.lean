/- Lemmas for the law: E34 -/
import Derived.Test.YtcgjmdpcplhanaaGreatZn11
namespace Go.Proofs.YtcgjmdpcplhanaaGreat
theorem zs213 {p q : Prop} (h : q) (f : Wq q→p:=by (intro hW;((refine gar ?_;refine zs20 ?_;refine zs53 ?_;refine aL_nil ?_));exact hW.out)) : p:=f ⟨h⟩
theorem zs130 {p q : Prop} (h : q) (f : Wq q→p:=by (intro hW;((first | (refine aLs rfl rfl rfl rfl ?_ ?_;(focus (apply look_b;(conv=>lhs;whnf);(first | done | exact rfl | (apply sc_bool;(first | (apply decide_eq_true;omega) | (apply decide_eq_false;omega) | assumption | (simp;done))))))) | refine aLw rfl rfl rfl rfl zb31 zb24 ?_));exact hW.out)) : p:=f ⟨h⟩
theorem zs128 {p q : Prop} (h : q) (f : Wq q→p:=by (intro hW;((first | (refine aLs rfl rfl rfl rfl ?_ ?_;(focus (apply look_b;(conv=>lhs;whnf);(first | done | exact rfl | (apply sc_bool;(first | (apply decide_eq_true;omega) | (apply decide_eq_false;omega) | assumption | (simp;done))))))) | refine aLw rfl rfl rfl rfl zb31 zb17 ?_));exact hW.out)) : p:=f ⟨h⟩
theorem zs127 {p q : Prop} (h : q) (f : Wq q→p:=by (intro hW;((first | (refine aLs rfl rfl rfl rfl ?_ ?_;(focus (apply look_b;(conv=>lhs;whnf);(first | done | exact rfl | (apply sc_bool;(first | (apply decide_eq_true;omega) | (apply decide_eq_false;omega) | assumption | (simp;done))))))) | refine aLw rfl rfl rfl rfl zb31 zb12 ?_));exact hW.out)) : p:=f ⟨h⟩
theorem zs212 {p q : Prop} (h : q) (f : Wq q→p:=by (intro hW;((refine gar ?_;refine zs43 ?_;refine zs23 ?_;refine zs43 ?_;refine zs23 ?_;refine zs77 ?_;refine zs4 ?_;refine zs125 ?_;refine zs11 ?_;refine zs125 ?_;refine zs11 ?_;refine zs127 ?_;refine zs13 ?_;refine zs4 ?_;refine zs128 ?_;refine zs11 ?_;refine zs128 ?_;refine zs11 ?_;refine zs130 ?_;refine zs13 ?_;refine zs6 ?_;refine aL_nil ?_));exact hW.out)) : p:=f ⟨h⟩
theorem zs129 {p q : Prop} (h : q) (f : Wq q→p:=by (intro hW;((first | (refine aLs rfl rfl rfl rfl ?_ ?_;(focus (apply look_b;(conv=>lhs;whnf);(first | done | exact rfl | (apply sc_bool;(first | (apply decide_eq_true;omega) | (apply decide_eq_false;omega) | assumption | (simp;done))))))) | refine aLw rfl rfl rfl rfl zb31 zb26 ?_));exact hW.out)) : p:=f ⟨h⟩
theorem zs215 {p q : Prop} (h : q) (f : Wq q→p:=by (intro hW;((refine gar ?_;refine zs22 ?_;refine zs23 ?_;refine zs4 ?_;refine zs67 ?_;refine zs23 ?_;refine zs5 ?_;refine zs7 ?_;refine aL_nil ?_));exact hW.out)) : p:=f ⟨h⟩
theorem zs133 {p q : Prop} (h : q) (f : Wq q→p:=by (intro hW;((first | (refine aLsu rfl rfl rfl rfl ?_ ?_;(focus (apply look_b;exact rfl))) | (refine aLs rfl rfl rfl rfl ?_ ?_;(focus (apply look_b;(conv=>lhs;whnf);(first | done | exact rfl | (apply sc_bool;(first | (apply decide_eq_true;omega) | (apply decide_eq_false;omega) | assumption | (simp;done))))))) | refine aLw rfl rfl rfl rfl zb31 zb1 ?_));exact hW.out)) : p:=f ⟨h⟩
theorem zs134 {p q : Prop} (h : q) (f : Wq q→p:=by (intro hW;((first | (refine aLsu rfl rfl rfl rfl ?_ ?_;(focus (apply look_b;exact rfl))) | (refine aLs rfl rfl rfl rfl ?_ ?_;(focus (apply look_b;(conv=>lhs;whnf);(first | done | exact rfl | (apply sc_bool;(first | (apply decide_eq_true;omega) | (apply decide_eq_false;omega) | assumption | (simp;done))))))) | refine aLw rfl rfl rfl rfl zb31 zb2 ?_));exact hW.out)) : p:=f ⟨h⟩
theorem zs136 {p q : Prop} (h : q) (f : Wq q→p:=by (intro hW;((first | (refine aLs rfl rfl rfl rfl ?_ ?_;(focus (apply look_b;(conv=>lhs;whnf);(first | done | exact rfl | (apply sc_bool;(first | (apply decide_eq_true;omega) | (apply decide_eq_false;omega) | assumption | (simp;done))))))) | refine aLw rfl rfl rfl rfl zb31 zb6 ?_));exact hW.out)) : p:=f ⟨h⟩
theorem zs131 {p q : Prop} (h : q) (f : Wq q→p:=by (intro hW;((first | (refine aLs0 rfl rfl rfl rfl ?_ ?_;(focus (apply look_b;(conv=>lhs;whnf);(first | done | exact rfl | (apply sc_bool;(first | (apply decide_eq_true;omega) | (apply decide_eq_false;omega) | assumption | (simp;done))))))) | refine aLw rfl rfl rfl rfl zb31 zb45 ?_));exact hW.out)) : p:=f ⟨h⟩
theorem zs132 {p q : Prop} (h : q) (f : Wq q→p:=by (intro hW;((first | (refine aLsu rfl rfl rfl rfl ?_ ?_;(focus (apply look_b;exact rfl))) | (refine aLs rfl rfl rfl rfl ?_ ?_;(focus (apply look_b;(conv=>lhs;whnf);(first | done | exact rfl | (apply sc_bool;(first | (apply decide_eq_true;omega) | (apply decide_eq_false;omega) | assumption | (simp;done))))))) | refine aLw rfl rfl rfl rfl zb31 zb17 ?_));exact hW.out)) : p:=f ⟨h⟩
theorem zs135 {p q : Prop} (h : q) (f : Wq q→p:=by (intro hW;((first | (refine aLsu rfl rfl rfl rfl ?_ ?_;(focus (apply look_b;exact rfl))) | (refine aLs rfl rfl rfl rfl ?_ ?_;(focus (apply look_b;(conv=>lhs;whnf);(first | done | exact rfl | (apply sc_bool;(first | (apply decide_eq_true;omega) | (apply decide_eq_false;omega) | assumption | (simp;done))))))) | refine aLw rfl rfl rfl rfl zb31 zb36 ?_));exact hW.out)) : p:=f ⟨h⟩
theorem zs214 {p q : Prop} (h : q) (f : Wq q→p:=by (intro hW;((refine gar ?_;refine zs43 ?_;refine zs23 ?_;refine zs91 ?_;refine zs4 ?_;refine zs128 ?_;refine zs11 ?_;refine zs60 ?_;refine zs63 ?_;refine zs131 ?_;refine zs132 ?_;refine zs133 ?_;refine zs134 ?_;refine zs135 ?_;refine zs136 ?_;refine zs62 ?_;refine zs4 ?_;refine zs128 ?_;refine zs11 ?_;refine zs60 ?_;refine zs63 ?_;refine zs62 ?_;refine aL_nil ?_));exact hW.out)) : p:=f ⟨h⟩
theorem zs211 {p q : Prop} (h : q) (f : Wq q→p:=by (intro hW;((refine gar ?_;refine zs20 ?_;refine zs20 ?_;refine zs53 ?_;refine aL_nil ?_));exact hW.out)) : p:=f ⟨h⟩
end Go.Proofs.YtcgjmdpcplhanaaGreat
namespace Go.Proofs.YtcgjmdpcplhanaaGreat
open Go.RowKit
namespace DW
set_option maxRecDepth 20000
set_option maxHeartbeats 2000000
theorem ar_lat_in {X : Nat→Prop} {w : World} {dim den : Int} {m : Mx.Mat} {v : Value} (h : AR X w (dL dim m den) v) : ∃ u,v = .agg #[.int .i64 dim,u,.int .i64 den]∧AR X w (dM m) u:=by
 simp only [dL,AR,ASt,zI] at h
 obtain ⟨cs,rfl,u1,r1,e1,⟨rfl,_⟩,_,u2,r2,e2,h2,_,u3,r3,e3,⟨rfl,_⟩,_,rfl⟩:=h
 have h3:=h2
 obtain ⟨a,c,rfl,_⟩:=h3
 refine ⟨_,?_,by simp only [dM,AR];exact h2⟩
 have : cs.toList = [.int .i64 dim,.slice a (m.map dI).length c,.int .i64 den]:=by rw [e1,e2,e3];simp [Value.cells]
 exact congrArg _ (Array.toList_inj.1 this)
theorem lcheck_d (dim den : Int) (m : List (List Int)) (hd : I64 dim) (hd2 : I64 den) (hm : m.length≤1000000000) (hr : ∀ r ∈ m,r.length≤1000000000) : Fn Tryz.prog 33 [dL dim m den] (zI (lck dim m den)):=by
 refine ⟨enters_of Tryz.func33 zb101 rfl,fun X w vs hX hv=>?_⟩
 simp only [ATp] at hv
 obtain ⟨v,rest,e,h1,rfl⟩:=hv
 have : vs = #[v]:=Array.toList_inj.1 e
 subst this
 obtain ⟨u,rfl,h2⟩:=ar_lat_in h1
 exact (lcheck_any dim den m u hd hd2 hm hr w (arm_zm h2)).mono fun e w' ⟨h,hb⟩=>⟨_,h,ar_n _,hb⟩
theorem samel_d (d1 d2 e1 e2 : Int) (a b : List (List Int)) (ha : a.length≤1000000000) (ha2 : ∀ l ∈ a,l.length≤1000000000) : Fn Tryz.prog 35 [dL d1 a e1,dL d2 b e2] (.sc (.bool (decide (d1 = d2) && decide (e1 = e2) && decide (a = b)))):=by
 have LS:=lists_d a b ha ha2
 generalize decide (a = b) = q at *
 by_cases h1 : d1 = d2
 ·by_cases h2 : e1 = e2
  ·subst h1;subst h2
   rw [decide_eq_true (rfl : d1 = d1),decide_eq_true (rfl : e1 = e1),Bool.and_self,Bool.true_and]
   refine fn_of Tryz.func35 zb101 rfl rfl rfl fun X0=>?_
   simp only [initL]
   (repeat (first | refine gk fun K hK=>?_ | refine zs2 ?_));refine zs211 ?_;(repeat (first | refine gk fun K hK=>?_ | refine zs2 ?_));(refine gar ?_;refine zs43 ?_;refine zs23 ?_;refine zs43 ?_;refine zs23 ?_;refine zs77 ?_;refine zs4 ?_;refine zs125 ?_;refine zs11 ?_;refine zs125 ?_;refine zs11 ?_;refine zs127 ?_;refine zs13 ?_;refine zs4 ?_;refine zs128 ?_;refine zs11 ?_;refine zs128 ?_;refine zs11 ?_;refine zs129 ?_;refine zs13 ?_;refine zs6 ?_;refine aL_nil ?_);(repeat (first | refine gk fun K hK=>?_ | refine zs2 ?_))
   exact ⟨_,Sh.refl,.one (.tmp 4) _ rfl (.tmp 4 rfl)⟩
  ·subst h1
   have hd : decide (e1 = e2) = false:=decide_eq_false h2
   rw [hd,Bool.and_false,Bool.false_and]
   refine fn_of Tryz.func35 zb101 rfl rfl rfl fun X0=>?_
   simp only [initL]
   (repeat (first | refine gk fun K hK=>?_ | refine zs2 ?_));refine zs211 ?_;(repeat (first | refine gk fun K hK=>?_ | refine zs2 ?_));refine zs212 ?_;(repeat (first | refine gk fun K hK=>?_ | refine zs2 ?_))
   exact ⟨_,Sh.refl,.one (.tmp 4) _ rfl (.tmp 4 rfl)⟩
 ·have hd : decide (d1 = d2) = false:=decide_eq_false h1
  rw [hd,Bool.false_and,Bool.false_and]
  refine fn_of Tryz.func35 zb101 rfl rfl rfl fun X0=>?_
  simp only [initL]
  (repeat (first | refine gk fun K hK=>?_ | refine zs2 ?_));refine zs211 ?_;(repeat (first | refine gk fun K hK=>?_ | refine zs2 ?_));refine zs212 ?_;(repeat (first | refine gk fun K hK=>?_ | refine zs2 ?_))
  exact ⟨_,Sh.refl,.one (.tmp 4) _ rfl (.tmp 4 rfl)⟩
def lgt (dim : Int) (m : List (List Int)) : Bool:=!(decide (dim = 6) || (decide (8 < m.length) && decide (m.length≤64)) || decide (70 < m.length)) && m.all (fun l=>decide (l.length≤10))
theorem light_d (dim den : Int) (m : List (List Int)) : Fn Tryz.prog 30 [dL dim m den] (.sc (.bool (lgt dim m))) := by
  have W1 := within_d dim 6 6
  by_cases c1 : dim = 6
  · subst c1
    rw [show (decide ((6 : Int) ≤ 6) && decide ((6 : Int) ≤ 6)) = true from rfl] at W1
    have EC : lgt 6 m = false := rfl
    refine fn_of Tryz.func30 zb101 rfl rfl rfl fun X0 => ?_
    simp only [initL]
    (repeat (first | refine gk fun K hK => ?_ | refine zs2 ?_)); refine zs213 ?_; (repeat (first | refine gk fun K hK => ?_ | refine zs2 ?_)); refine zs214 ?_; (repeat (first | refine gk fun K hK => ?_ | refine zs2 ?_))
    refine zs48 ?_
    (repeat (first | refine gk fun K hK => ?_ | refine zs2 ?_)); refine zs160 ?_; (repeat (first | refine gk fun K hK => ?_ | refine zs2 ?_))
    rw [EC]
    exact ⟨_, Sh.refl, .one (.tmp 2) _ rfl (.tmp 2 rfl)⟩
  · rw [show (decide (6 ≤ dim) && decide (dim ≤ 6)) = false by rw [Bool.and_eq_false_iff, decide_eq_false_iff_not, decide_eq_false_iff_not]; omega] at W1
    by_cases c2 : 8 < m.length
    · have h8 : decide ((m.length : Int) > 8) = true := decide_eq_true (by omega)
      by_cases c3 : m.length ≤ 64
      · have h64 : decide ((m.length : Int) ≤ 64) = true := decide_eq_true (by omega)
        have EC : lgt dim m = false := by unfold lgt; rw [decide_eq_true c2, decide_eq_true c3]; simp
        refine fn_of Tryz.func30 zb101 rfl rfl rfl fun X0 => ?_
        simp only [initL]
        (repeat (first | refine gk fun K hK => ?_ | refine zs2 ?_)); refine zs213 ?_; (repeat (first | refine gk fun K hK => ?_ | refine zs2 ?_)); refine zs214 ?_; (repeat (first | refine gk fun K hK => ?_ | refine zs2 ?_))
        refine zs48 ?_
        (repeat (first | refine gk fun K hK => ?_ | refine zs2 ?_)); refine zs160 ?_; (repeat (first | refine gk fun K hK => ?_ | refine zs2 ?_))
        rw [EC]
        exact ⟨_, Sh.refl, .one (.tmp 2) _ rfl (.tmp 2 rfl)⟩
      · have h64 : decide ((m.length : Int) ≤ 64) = false := decide_eq_false (by omega)
        by_cases c4 : 70 < m.length
        · have h70 : decide ((m.length : Int) > 70) = true := decide_eq_true (by omega)
          have EC : lgt dim m = false := by unfold lgt; rw [decide_eq_true c4]; simp
          refine fn_of Tryz.func30 zb101 rfl rfl rfl fun X0 => ?_
          simp only [initL]
          (repeat (first | refine gk fun K hK => ?_ | refine zs2 ?_)); refine zs213 ?_; (repeat (first | refine gk fun K hK => ?_ | refine zs2 ?_)); refine zs214 ?_; (repeat (first | refine gk fun K hK => ?_ | refine zs2 ?_))
          refine zs48 ?_
          (repeat (first | refine gk fun K hK => ?_ | refine zs2 ?_)); refine zs160 ?_; (repeat (first | refine gk fun K hK => ?_ | refine zs2 ?_))
          rw [EC]
          exact ⟨_, Sh.refl, .one (.tmp 2) _ rfl (.tmp 2 rfl)⟩
        · have h70 : decide ((m.length : Int) > 70) = false := decide_eq_false (by omega)
          have EC : lgt dim m = m.all (fun l => decide (l.length ≤ 10)) := by unfold lgt; rw [decide_eq_false c1, decide_eq_false c3, decide_eq_false c4, Bool.and_false, Bool.or_self, Bool.or_self, Bool.not_false, Bool.true_and]
          rw [EC]
          refine fn_of Tryz.func30 zb101 rfl rfl rfl fun X0 => ?_
          simp only [initL]
          (repeat (first | refine gk fun K hK => ?_ | refine zs2 ?_)); refine zs213 ?_; (repeat (first | refine gk fun K hK => ?_ | refine zs2 ?_)); refine zs214 ?_; (repeat (first | refine gk fun K hK => ?_ | refine zs2 ?_))
          refine zs45 ?_
          (repeat (first | refine gk fun K hK => ?_ | refine zs2 ?_)); refine zs149 ?_; (repeat (first | refine gk fun K hK => ?_ | refine zs2 ?_))
          (refine aW_sh (Sh_to (sl' := [(1, .pt (dL dim m den)), (3, zI 0)]) (ow' := []) zb19 zb37) ?_)
          refine aW_loop (fun r s => ∃ k, k ≤ m.length ∧ r = m.length - k ∧ (∀ l ∈ m.take k, l.length ≤ 10) ∧ s = ⟨[(1, .pt (dL dim m den)), (3, zI (k : Nat))], []⟩) (m := m.length) ⟨0, Nat.zero_le _, rfl, fun z h => absurd h (by simp), rfl⟩ fun r s hs => ?_
          obtain ⟨k, hk, rfl, hin, rfl⟩ := hs
          by_cases hkl : k < m.length
          · obtain ⟨l, hl⟩ := get_some hkl
            by_cases hb : l.length ≤ 10
            · (repeat (first | refine gk fun K hK => ?_ | refine zs2 ?_)); refine zs150 ?_; (repeat (first | refine gk fun K hK => ?_ | refine zs2 ?_))
              refine zs48 ?_
              (repeat (first | refine gk fun K hK => ?_ | refine zs2 ?_)); refine zs215 ?_; (repeat (first | refine gk fun K hK => ?_ | refine zs2 ?_))
              refine zs45 ?_
              (repeat (first | refine gk fun K hK => ?_ | refine zs2 ?_)); refine zs151 ?_; (repeat (first | refine gk fun K hK => ?_ | refine zs2 ?_))
              simp only [nx, inB]
              exact ⟨m.length - (k + 1), _, by omega, (Sh_to (sl' := [(1, .pt (dL dim m den)), (3, zI ((k + 1 : Nat) : Int))]) (ow' := []) zb19 zb37), k + 1, by omega, rfl, fun x hx => by
                rw [take_snoc hl, List.mem_append] at hx
                rcases hx with hx | hx
                · exact hin x hx
                · rw [List.mem_singleton.1 hx]; exact hb, rfl⟩
            · have EZ : m.all (fun l => decide (l.length ≤ 10)) = false := by
                rw [List.all_eq_false]
                exact ⟨l, List.mem_of_getElem? hl, by simpa using hb⟩
              (repeat (first | refine gk fun K hK => ?_ | refine zs2 ?_)); refine zs150 ?_; (repeat (first | refine gk fun K hK => ?_ | refine zs2 ?_))
              refine zs48 ?_
              (repeat (first | refine gk fun K hK => ?_ | refine zs2 ?_)); refine zs215 ?_; (repeat (first | refine gk fun K hK => ?_ | refine zs2 ?_))
              refine zs48 ?_
              (repeat (first | refine gk fun K hK => ?_ | refine zs2 ?_)); refine zs160 ?_; (repeat (first | refine gk fun K hK => ?_ | refine zs2 ?_))
              rw [EZ]
              exact ⟨_, Sh.refl, .one (.tmp 2) _ rfl (.tmp 2 rfl)⟩
          · obtain rfl : k = m.length := by omega
            have EZ : m.all (fun l => decide (l.length ≤ 10)) = true := by
              rw [List.all_eq_true]
              intro l hl
              exact decide_eq_true (hin l (by rw [List.take_length]; exact hl))
            (repeat (first | refine gk fun K hK => ?_ | refine zs2 ?_)); refine zs150 ?_; (repeat (first | refine gk fun K hK => ?_ | refine zs2 ?_))
            refine zs45 ?_
            (repeat (first | refine gk fun K hK => ?_ | refine zs2 ?_)); refine zs160 ?_; (repeat (first | refine gk fun K hK => ?_ | refine zs2 ?_))
            rw [EZ]
            exact ⟨_, Sh.refl, .one (.tmp 2) _ rfl (.tmp 2 rfl)⟩
    · have h8 : decide ((m.length : Int) > 8) = false := decide_eq_false (by omega)
      have h70 : decide ((m.length : Int) > 70) = false := decide_eq_false (by omega)
      have EC : lgt dim m = m.all (fun l => decide (l.length ≤ 10)) := by unfold lgt; rw [decide_eq_false c1, decide_eq_false c2, decide_eq_false (show ¬ 70 < m.length by omega), Bool.false_and, Bool.or_self, Bool.or_self, Bool.not_false, Bool.true_and]
      rw [EC]
      refine fn_of Tryz.func30 zb101 rfl rfl rfl fun X0 => ?_
      simp only [initL]
      (repeat (first | refine gk fun K hK => ?_ | refine zs2 ?_)); refine zs213 ?_; (repeat (first | refine gk fun K hK => ?_ | refine zs2 ?_)); refine zs214 ?_; (repeat (first | refine gk fun K hK => ?_ | refine zs2 ?_))
      refine zs45 ?_
      (repeat (first | refine gk fun K hK => ?_ | refine zs2 ?_)); refine zs149 ?_; (repeat (first | refine gk fun K hK => ?_ | refine zs2 ?_))
      (refine aW_sh (Sh_to (sl' := [(1, .pt (dL dim m den)), (3, zI 0)]) (ow' := []) zb19 zb37) ?_)
      refine aW_loop (fun r s => ∃ k, k ≤ m.length ∧ r = m.length - k ∧ (∀ l ∈ m.take k, l.length ≤ 10) ∧ s = ⟨[(1, .pt (dL dim m den)), (3, zI (k : Nat))], []⟩) (m := m.length) ⟨0, Nat.zero_le _, rfl, fun z h => absurd h (by simp), rfl⟩ fun r s hs => ?_
      obtain ⟨k, hk, rfl, hin, rfl⟩ := hs
      by_cases hkl : k < m.length
      · obtain ⟨l, hl⟩ := get_some hkl
        by_cases hb : l.length ≤ 10
        · (repeat (first | refine gk fun K hK => ?_ | refine zs2 ?_)); refine zs150 ?_; (repeat (first | refine gk fun K hK => ?_ | refine zs2 ?_))
          refine zs48 ?_
          (repeat (first | refine gk fun K hK => ?_ | refine zs2 ?_)); refine zs215 ?_; (repeat (first | refine gk fun K hK => ?_ | refine zs2 ?_))
          refine zs45 ?_
          (repeat (first | refine gk fun K hK => ?_ | refine zs2 ?_)); refine zs151 ?_; (repeat (first | refine gk fun K hK => ?_ | refine zs2 ?_))
          simp only [nx, inB]
          exact ⟨m.length - (k + 1), _, by omega, (Sh_to (sl' := [(1, .pt (dL dim m den)), (3, zI ((k + 1 : Nat) : Int))]) (ow' := []) zb19 zb37), k + 1, by omega, rfl, fun x hx => by
            rw [take_snoc hl, List.mem_append] at hx
            rcases hx with hx | hx
            · exact hin x hx
            · rw [List.mem_singleton.1 hx]; exact hb, rfl⟩
        · have EZ : m.all (fun l => decide (l.length ≤ 10)) = false := by
            rw [List.all_eq_false]
            exact ⟨l, List.mem_of_getElem? hl, by simpa using hb⟩
          (repeat (first | refine gk fun K hK => ?_ | refine zs2 ?_)); refine zs150 ?_; (repeat (first | refine gk fun K hK => ?_ | refine zs2 ?_))
          refine zs48 ?_
          (repeat (first | refine gk fun K hK => ?_ | refine zs2 ?_)); refine zs215 ?_; (repeat (first | refine gk fun K hK => ?_ | refine zs2 ?_))
          refine zs48 ?_
          (repeat (first | refine gk fun K hK => ?_ | refine zs2 ?_)); refine zs160 ?_; (repeat (first | refine gk fun K hK => ?_ | refine zs2 ?_))
          rw [EZ]
          exact ⟨_, Sh.refl, .one (.tmp 2) _ rfl (.tmp 2 rfl)⟩
      · obtain rfl : k = m.length := by omega
        have EZ : m.all (fun l => decide (l.length ≤ 10)) = true := by
          rw [List.all_eq_true]
          intro l hl
          exact decide_eq_true (hin l (by rw [List.take_length]; exact hl))
        (repeat (first | refine gk fun K hK => ?_ | refine zs2 ?_)); refine zs150 ?_; (repeat (first | refine gk fun K hK => ?_ | refine zs2 ?_))
        refine zs45 ?_
        (repeat (first | refine gk fun K hK => ?_ | refine zs2 ?_)); refine zs160 ?_; (repeat (first | refine gk fun K hK => ?_ | refine zs2 ?_))
        rw [EZ]
        exact ⟨_, Sh.refl, .one (.tmp 2) _ rfl (.tmp 2 rfl)⟩
end DW
end Go.Proofs.YtcgjmdpcplhanaaGreat
