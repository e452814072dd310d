/- Lemmas for the law: E33 -/
import Derived.Test.YtcgjmdpcplhanaaGreatZn10
namespace Go.Proofs.YtcgjmdpcplhanaaGreat
theorem zs209 {p q : Prop} (h : q) (f : Wq q→p:=by (intro hW;((refine gar ?_;refine zs4 ?_;refine zs43 ?_;refine zs23 ?_;refine zs24 ?_;refine aL_nil ?_));exact hW.out)) : p:=f ⟨h⟩
theorem zs208 {p q : Prop} (h : q) (f : Wq q→p:=by (intro hW;((refine zs55 ?_;refine zs26 ?_;refine zs27 ?_;refine zs25 ?_;refine zs28 ?_;refine zs27 ?_;refine zs108 ?_;refine zs36 ?_;refine zs27 ?_;refine zs58 ?_;refine zs31 ?_));exact hW.out)) : p:=f ⟨h⟩
theorem zs126 {p q : Prop} (h : q) (f : Wq q→p:=by (intro hW;((first | (refine aLs rfl rfl rfl rfl ?_ ?_;(focus (apply look_b;(conv=>lhs;whnf);(first | done | exact rfl | (apply sc_bool;(first | (apply decide_eq_true;omega) | (apply decide_eq_false;omega) | assumption | (simp;done))))))) | refine aLw rfl rfl rfl rfl zb31 zb27 ?_));exact hW.out)) : p:=f ⟨h⟩
theorem zs125 {p q : Prop} (h : q) (f : Wq q→p:=by (intro hW;((first | (refine aLs rfl rfl rfl rfl ?_ ?_;(focus (apply look_b;(conv=>lhs;whnf);(first | done | exact rfl | (apply sc_bool;(first | (apply decide_eq_true;omega) | (apply decide_eq_false;omega) | assumption | (simp;done))))))) | refine aLw rfl rfl rfl rfl zb31 zb16 ?_));exact hW.out)) : p:=f ⟨h⟩
theorem zs207 {p q : Prop} (h : q) (f : Wq q→p:=by (intro hW;((refine gar ?_;refine zs43 ?_;refine zs23 ?_;refine zs91 ?_;refine zs94 ?_;refine zs4 ?_;refine zs125 ?_;refine zs11 ?_;refine zs126 ?_;refine zs96 ?_;refine zs62 ?_;refine aL_nil ?_));exact hW.out)) : p:=f ⟨h⟩
theorem zs210 {p q : Prop} (h : q) (f : Wq q→p:=by (intro hW;((refine gar ?_;refine zs22 ?_;refine zs23 ?_;refine zs4 ?_;refine zs67 ?_;refine zs23 ?_;refine zs4 ?_;refine zs67 ?_;refine zs23 ?_;refine zs33 ?_;refine zs94 ?_;refine aL_nil ?_));exact hW.out)) : p:=f ⟨h⟩
end Go.Proofs.YtcgjmdpcplhanaaGreat
namespace Go.Proofs.YtcgjmdpcplhanaaGreat
open Go.RowKit
namespace DW
theorem lscan_none {dim : Int} {m : List (List Int)} : lscan dim (m.drop m.length) = 0:=by rw [List.drop_length];rfl
theorem lscan_shape {dim : Int} {m : List (List Int)} {k : Nat} {l : List Int} (hl : m[k]? = some l) (h : (l.length : Int) ≠ dim) : lscan dim (m.drop k) = 9:=by rw [lscan_step hl,if_neg h]
theorem lscan_big {dim : Int} {m : List (List Int)} {k : Nat} {l : List Int} {z : Int} (hl : m[k]? = some l) (h : (l.length : Int) = dim) (hz : z ∈ l) (hb : inb 1000000000000000 z = false) : lscan dim (m.drop k) = 2:=by
 rw [lscan_step hl,if_pos h,if_pos]
 rw [List.any_eq_true]
 exact ⟨z,hz,by unfold big;rw [hb];rfl⟩
theorem lscan_next {dim : Int} {m : List (List Int)} {k : Nat} {l : List Int} (hl : m[k]? = some l) (h : (l.length : Int) = dim) (hb : ∀ z ∈ l,inb 1000000000000000 z = true) : lscan dim (m.drop k) = lscan dim (m.drop (k + 1)):=by
 rw [lscan_step hl,if_pos h,if_neg]
 intro h4
 rw [List.any_eq_true] at h4
 obtain ⟨z,hz,h6⟩:=h4
 unfold big at h6
 rw [hb z hz] at h6
 cases h6
theorem lck_i64 (dim : Int) (m : List (List Int)) (den : Int) : lck dim m den = 0∨lck dim m den = 2∨lck dim m den = 8∨lck dim m den = 9:=by
 have : ∀ m : List (List Int),lscan dim m = 0∨lscan dim m = 2∨lscan dim m = 9:=by
  intro m
  induction m with
  | nil=>exact .inl rfl
  | cons r t ih=>unfold lscan;split <;> (try split) <;> simp_all
 unfold lck
 split
 ·exact .inr (.inl rfl)
 ·split
  ·exact .inr (.inr (.inl rfl))
  ·rcases this m with h | h | h <;> simp [h]
set_option maxRecDepth 20000
set_option maxHeartbeats 2000000
theorem rcheck_d (dim den : Int) (m : List (List Int)) (hm : m.length≤1000000000) : Fn Tryz.prog 32 [dL dim m den] (zI (lck dim m den)):=by
 have W1:=within_d dim 1 6
 have W2:=within_d den 1 1000000000000000
 by_cases c1 : 1≤dim∧dim≤6
 ·rw [show (decide (1≤dim) && decide (dim≤6)) = true by rw [decide_eq_true c1.1,decide_eq_true c1.2];rfl] at W1
  by_cases c2 : 1≤den∧den≤1000000000000000
  ·rw [show (decide (1≤den) && decide (den≤1000000000000000)) = true by rw [decide_eq_true c2.1,decide_eq_true c2.2];rfl] at W2
   have E : lck dim m den = if 64 < m.length then 8 else lscan dim m:=if_neg (by omega)
   by_cases c3 : 64 < m.length
   ·have EC : lck dim m den = 8:=by rw [E,if_pos c3]
    have hd : decide ((m.length : Int) > 64) = true:=decide_eq_true (by omega)
    refine fn_of Tryz.func32 zb101 rfl rfl rfl fun X0=>?_
    simp only [initL]
    (repeat (first | refine gk fun K hK=>?_ | refine zs2 ?_));refine zs154 ?_;(repeat (first | refine gk fun K hK=>?_ | refine zs2 ?_));refine zs207 ?_;(repeat (first | refine gk fun K hK=>?_ | refine zs2 ?_))
    refine zs45 ?_
    (repeat (first | refine gk fun K hK=>?_ | refine zs2 ?_));(refine gar ?_;refine zs22 ?_;refine zs23 ?_;refine zs5 ?_;refine zs7 ?_;refine aL_nil ?_);(repeat (first | refine gk fun K hK=>?_ | refine zs2 ?_))
    refine zs48 ?_
    (repeat (first | refine gk fun K hK=>?_ | refine zs2 ?_));refine zs149 ?_;(repeat (first | refine gk fun K hK=>?_ | refine zs2 ?_))
    rw [EC]
    exact ⟨_,Sh.refl,.one (.tmp 2) _ rfl (.tmp 2 rfl)⟩
   ·have EC : lck dim m den = lscan dim m:=by rw [E,if_neg c3]
    have hd : decide ((m.length : Int) > 64) = false:=decide_eq_false (by omega)
    obtain ⟨n,rfl⟩ : ∃ n : Nat,dim = n:=⟨dim.toNat,by omega⟩
    clear E
    rw [EC]
    refine fn_of Tryz.func32 zb101 rfl rfl rfl fun X0=>?_
    simp only [initL]
    (repeat (first | refine gk fun K hK=>?_ | refine zs2 ?_));refine zs154 ?_;(repeat (first | refine gk fun K hK=>?_ | refine zs2 ?_));refine zs207 ?_;(repeat (first | refine gk fun K hK=>?_ | refine zs2 ?_))
    refine zs45 ?_
    (repeat (first | refine gk fun K hK=>?_ | refine zs2 ?_));(refine gar ?_;refine zs22 ?_;refine zs23 ?_;refine zs5 ?_;refine zs7 ?_;refine aL_nil ?_);(repeat (first | refine gk fun K hK=>?_ | refine zs2 ?_))
    refine zs45 ?_
    (repeat (first | refine gk fun K hK=>?_ | refine zs2 ?_));refine zs149 ?_;(repeat (first | refine gk fun K hK=>?_ | refine zs2 ?_))
    (refine aW_sh (Sh_to (sl':=[(1,.pt (dL n m den)),(3,zI 0)]) (ow':=[]) zb19 zb37) ?_)
    refine aW_loop (fun r s=>∃ k,k≤m.length∧r = m.length - k∧lscan n m = lscan n (m.drop k)∧s = ⟨[(1,.pt (dL n m den)),(3,zI (k : Nat))],[]⟩) (m:=m.length) ⟨0,Nat.zero_le _,rfl,rfl,rfl⟩ fun r s hs=>?_
    obtain ⟨k,hk,rfl,hsc,rfl⟩:=hs
    by_cases hkl : k < m.length
    ·obtain ⟨l,hl⟩:=get_some hkl
     by_cases hln : l.length = n
     ·(repeat (first | refine gk fun K hK=>?_ | refine zs2 ?_));refine zs150 ?_;(repeat (first | refine gk fun K hK=>?_ | refine zs2 ?_))
      refine zs48 ?_
      (repeat (first | refine gk fun K hK=>?_ | refine zs2 ?_));refine zs208 ?_;(repeat (first | refine gk fun K hK=>?_ | refine zs2 ?_))
      refine zs45 ?_
      (repeat (first | refine gk fun K hK=>?_ | refine zs2 ?_));refine zs149 ?_;(repeat (first | refine gk fun K hK=>?_ | refine zs2 ?_))
      (refine aW_sh (Sh_to (sl':=[(1,.pt (dL n m den)),(3,zI (k : Nat)),(4,zI 0)]) (ow':=[]) zb19 zb37) ?_)
      refine aW_loop (fun r s=>∃ j,j≤n∧r = n - j∧(∀ z ∈ l.take j,inb 1000000000000000 z = true)∧s = ⟨[(1,.pt (dL n m den)),(3,zI (k : Nat)),(4,zI (j : Nat))],[]⟩) (m:=n) ⟨0,Nat.zero_le _,rfl,fun z h=>absurd h (by simp),rfl⟩ fun r s hs=>?_
      obtain ⟨j,hj,rfl,hin,rfl⟩:=hs
      by_cases hjl : j < n
      ·obtain ⟨z,hz⟩:=get_some (m:=l) (k:=j) (by omega)
       have FT:=fits_d z
       by_cases hb : inb 1000000000000000 z = true
       ·rw [hb] at FT
        (repeat (first | refine gk fun K hK=>?_ | refine zs2 ?_));refine zs209 ?_;(repeat (first | refine gk fun K hK=>?_ | refine zs2 ?_))
        refine zs48 ?_
        (repeat (first | refine gk fun K hK=>?_ | refine zs2 ?_));refine zs210 ?_;(repeat (first | refine gk fun K hK=>?_ | refine zs2 ?_))
        refine zs45 ?_
        (repeat (first | refine gk fun K hK=>?_ | refine zs2 ?_));refine zs151 ?_;(repeat (first | refine gk fun K hK=>?_ | refine zs2 ?_))
        simp only [nx,inB]
        exact ⟨n - (j + 1),_,by omega,(Sh_to (sl':=[(1,.pt (dL n m den)),(3,zI (k : Nat)),(4,zI ((j + 1 : Nat) : Int))]) (ow':=[]) zb19 zb37),j + 1,by omega,rfl,fun x hx=>by
         rw [take_snoc hz,List.mem_append] at hx
         rcases hx with hx | hx
         ·exact hin x hx
         ·rw [List.mem_singleton.1 hx];exact hb,rfl⟩
       ·have hb' : inb 1000000000000000 z = false:=by simpa using hb
        have EZ:=lscan_big (dim:=n) hl (by omega) (List.mem_of_getElem? hz) hb'
        rw [hb'] at FT
        (repeat (first | refine gk fun K hK=>?_ | refine zs2 ?_));refine zs209 ?_;(repeat (first | refine gk fun K hK=>?_ | refine zs2 ?_))
        refine zs48 ?_
        (repeat (first | refine gk fun K hK=>?_ | refine zs2 ?_));refine zs210 ?_;(repeat (first | refine gk fun K hK=>?_ | refine zs2 ?_))
        refine zs48 ?_
        (repeat (first | refine gk fun K hK=>?_ | refine zs2 ?_));refine zs149 ?_;(repeat (first | refine gk fun K hK=>?_ | refine zs2 ?_))
        rw [hsc,EZ]
        exact ⟨_,Sh.refl,.one (.tmp 2) _ rfl (.tmp 2 rfl)⟩
      ·obtain rfl : j = n:=by omega
       have hnx:=lscan_next (dim:=j) hl (by omega) (fun z hz=>hin z (by rw [List.take_of_length_le (by omega)];exact hz))
       (repeat (first | refine gk fun K hK=>?_ | refine zs2 ?_));refine zs209 ?_;(repeat (first | refine gk fun K hK=>?_ | refine zs2 ?_))
       refine zs45 ?_
       (repeat (first | refine gk fun K hK=>?_ | refine zs2 ?_));refine zs151 ?_;(repeat (first | refine gk fun K hK=>?_ | refine zs2 ?_))
       simp only [nx,inB]
       exact ⟨m.length - (k + 1),_,by omega,(Sh_to (sl':=[(1,.pt (dL j m den)),(3,zI ((k + 1 : Nat) : Int))]) (ow':=[]) zb19 zb37),k + 1,by omega,rfl,hsc.trans hnx,rfl⟩
     ·have EZ:=lscan_shape (dim:=n) hl (by omega)
      (repeat (first | refine gk fun K hK=>?_ | refine zs2 ?_));refine zs150 ?_;(repeat (first | refine gk fun K hK=>?_ | refine zs2 ?_))
      refine zs48 ?_
      (repeat (first | refine gk fun K hK=>?_ | refine zs2 ?_));refine zs208 ?_;(repeat (first | refine gk fun K hK=>?_ | refine zs2 ?_))
      refine zs48 ?_
      (repeat (first | refine gk fun K hK=>?_ | refine zs2 ?_));refine zs149 ?_;(repeat (first | refine gk fun K hK=>?_ | refine zs2 ?_))
      rw [hsc,EZ]
      exact ⟨_,Sh.refl,.one (.tmp 2) _ rfl (.tmp 2 rfl)⟩
    ·obtain rfl : k = m.length:=by omega
     rw [lscan_none] at hsc
     (repeat (first | refine gk fun K hK=>?_ | refine zs2 ?_));refine zs150 ?_;(repeat (first | refine gk fun K hK=>?_ | refine zs2 ?_))
     refine zs45 ?_
     (repeat (first | refine gk fun K hK=>?_ | refine zs2 ?_));refine zs149 ?_;(repeat (first | refine gk fun K hK=>?_ | refine zs2 ?_))
     rw [hsc]
     exact ⟨_,Sh.refl,.one (.tmp 2) _ rfl (.tmp 2 rfl)⟩
  ·rw [show (decide (1≤den) && decide (den≤1000000000000000)) = false by rw [Bool.and_eq_false_iff,decide_eq_false_iff_not,decide_eq_false_iff_not];omega] at W2
   have EC : lck dim m den = 2:=if_pos (by omega)
   refine fn_of Tryz.func32 zb101 rfl rfl rfl fun X0=>?_
   simp only [initL]
   (repeat (first | refine gk fun K hK=>?_ | refine zs2 ?_));refine zs154 ?_;(repeat (first | refine gk fun K hK=>?_ | refine zs2 ?_));refine zs207 ?_;(repeat (first | refine gk fun K hK=>?_ | refine zs2 ?_))
   refine zs48 ?_
   (repeat (first | refine gk fun K hK=>?_ | refine zs2 ?_));refine zs149 ?_;(repeat (first | refine gk fun K hK=>?_ | refine zs2 ?_))
   rw [EC]
   exact ⟨_,Sh.refl,.one (.tmp 2) _ rfl (.tmp 2 rfl)⟩
 ·rw [show (decide (1≤dim) && decide (dim≤6)) = false by rw [Bool.and_eq_false_iff,decide_eq_false_iff_not,decide_eq_false_iff_not];omega] at W1
  have EC : lck dim m den = 2:=if_pos (by omega)
  refine fn_of Tryz.func32 zb101 rfl rfl rfl fun X0=>?_
  simp only [initL]
  (repeat (first | refine gk fun K hK=>?_ | refine zs2 ?_));refine zs154 ?_;(repeat (first | refine gk fun K hK=>?_ | refine zs2 ?_));refine zs207 ?_;(repeat (first | refine gk fun K hK=>?_ | refine zs2 ?_))
  refine zs48 ?_
  (repeat (first | refine gk fun K hK=>?_ | refine zs2 ?_));refine zs149 ?_;(repeat (first | refine gk fun K hK=>?_ | refine zs2 ?_))
  rw [EC]
  exact ⟨_,Sh.refl,.one (.tmp 2) _ rfl (.tmp 2 rfl)⟩
end DW
end Go.Proofs.YtcgjmdpcplhanaaGreat
