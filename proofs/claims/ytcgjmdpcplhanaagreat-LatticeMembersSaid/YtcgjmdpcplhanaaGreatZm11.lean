/- Lemmas for the law: E33 -/
import Derived.Test.YtcgjmdpcplhanaaGreatZm10
namespace Go.Proofs.YtcgjmdpcplhanaaGreat
section
theorem Dt{p q:Prop}(h:q)(f:Wq q→p:=by(intro hW;((refine gar ?_;refine jo ?_;refine aJ ?_;refine zs4 ?_;refine cE ?_;refine aJ ?_;refine zs4 ?_;refine cE ?_;refine aJ ?_;refine bL ?_;refine fW ?_;refine ae ?_));exact hW.out)):p:=f ⟨h⟩
theorem pN{p q:Prop}(h:q)(f:Wq q→p:=by(intro hW;((refine gar ?_;refine zs4 ?_;refine gF ?_;refine aJ ?_;refine jn ?_;refine ae ?_));exact hW.out)):p:=f ⟨h⟩
theorem Du{p q:Prop}(h:q)(f:Wq q→p:=by(intro hW;((refine xC ?_;refine zs26 ?_;refine bq ?_;refine a8 ?_;refine dQ ?_;refine bq ?_;refine Ez ?_;refine oU ?_;refine bq ?_;refine xx ?_;refine cV ?_));exact hW.out)):p:=f ⟨h⟩
theorem zs119{p q:Prop}(h:q)(f:Wq q→p:=by(intro hW;((first|(refine aLs rfl rfl rfl rfl ?_ ?_;(focus(apply aK;(conv=>lhs;whnf);(first|done|exact rfl|(apply aG;(first|(apply decide_eq_true;omega)|(apply decide_eq_false;omega)|assumption|(simp;done)))))))|refine aLw rfl rfl rfl rfl bj yj ?_));exact hW.out)):p:=f ⟨h⟩
theorem zs120{p q:Prop}(h:q)(f:Wq q→p:=by(intro hW;((first|(refine aLs rfl rfl rfl rfl ?_ ?_;(focus(apply aK;(conv=>lhs;whnf);(first|done|exact rfl|(apply aG;(first|(apply decide_eq_true;omega)|(apply decide_eq_false;omega)|assumption|(simp;done)))))))|refine aLw rfl rfl rfl rfl bj zb27 ?_));exact hW.out)):p:=f ⟨h⟩
theorem sX{p q:Prop}(h:q)(f:Wq q→p:=by(intro hW;((refine gar ?_;refine gF ?_;refine aJ ?_;refine tD ?_;refine fW ?_;refine zs4 ?_;refine zs119 ?_;refine iy ?_;refine zs120 ?_;refine xv ?_;refine gE ?_;refine ae ?_));exact hW.out)):p:=f ⟨h⟩
end
section
open Go.RowKit
namespace DW
theorem yO{dim:Int}{m:List (List Int)}:ck dim (m.drop m.length)=0:=by rw[List.drop_length];rfl
theorem vT{dim:Int}{m:List (List Int)}{k:Nat}{l:List Int}(hl:m[k]?=some l)(h:(l.length:Int)≠dim):ck dim (m.drop k)=9:=by rw[jC hl,if_neg h]
theorem AH{dim:Int}{m:List (List Int)}{k:Nat}{l:List Int}{z:Int}(hl:m[k]?=some l)(h:(l.length:Int)=dim)(hz:z∈l)(hb:inb 1000000000000000 z=false):ck dim (m.drop k)=2:=by
 rw[jC hl,if_pos h,if_pos]
 rw[List.any_eq_true]
 exact⟨z,hz,by unfold big;rw[hb];rfl⟩
theorem yP{dim:Int}{m:List (List Int)}{k:Nat}{l:List Int}(hl:m[k]?=some l)(h:(l.length:Int)=dim)(hb:∀z∈l,inb 1000000000000000 z=true):ck dim (m.drop k)=ck dim (m.drop (k+1)):=by
 rw[jC hl,if_pos h,if_neg]
 intro h4
 rw[List.any_eq_true]at h4
 obtain⟨z,hz,h6⟩:=h4
 unfold big at h6
 rw[hb z hz]at h6
 cases h6
set_option maxRecDepth 20000
set_option maxHeartbeats 2000000
theorem Cd(dim den:Int)(m:List (List Int))(hm:m.length≤1000000000):Fn Tryz.prog 32 [dL dim m den] (zI (lck dim m den)):=by
 have W1:=jQ dim 1 6
 have W2:=jQ den 1 1000000000000000
 by_cases c1:1≤dim∧dim≤6
 ·rw[show(decide (1≤dim)&&decide (dim≤6))=true by rw[decide_eq_true c1.1,decide_eq_true c1.2];rfl]at W1
  by_cases c2:1≤den∧den≤1000000000000000
  ·rw[show(decide (1≤den)&&decide (den≤1000000000000000))=true by rw[decide_eq_true c2.1,decide_eq_true c2.2];rfl]at W2
   have E:lck dim m den=if 64<m.length then 8 else ck dim m:=if_neg (by omega)
   by_cases c3:64<m.length
   ·have EC:lck dim m den=8:=by rw[E,if_pos c3]
    have hd:decide ((m.length:Int)>64)=true:=decide_eq_true (by omega)
    refine aF Tryz.func32 af rfl rfl rfl fun X0=>?_
    simp only[aA]
    (repeat(first|refine gk fun K hK=>?_|refine zs2 ?_));refine nY ?_;(repeat(first|refine gk fun K hK=>?_|refine zs2 ?_));refine sX ?_;(repeat(first|refine gk fun K hK=>?_|refine zs2 ?_))
    refine ay ?_
    (repeat(first|refine gk fun K hK=>?_|refine zs2 ?_));(refine gar ?_;refine jo ?_;refine aJ ?_;refine zs5 ?_;refine zs7 ?_;refine ae ?_);(repeat(first|refine gk fun K hK=>?_|refine zs2 ?_))
    refine av ?_
    (repeat(first|refine gk fun K hK=>?_|refine zs2 ?_));refine aQ ?_;(repeat(first|refine gk fun K hK=>?_|refine zs2 ?_))
    rw[EC]
    exact⟨_,Sh.refl,.one (.tmp 2) _ rfl (.tmp 2 rfl)⟩
   ·have EC:lck dim m den=ck dim m:=by rw[E,if_neg c3]
    have hd:decide ((m.length:Int)>64)=false:=decide_eq_false (by omega)
    obtain⟨n,rfl⟩:∃n:Nat,dim=n:=⟨dim.toNat,by omega⟩
    clear E
    rw[EC]
    refine aF Tryz.func32 af rfl rfl rfl fun X0=>?_
    simp only[aA]
    (repeat(first|refine gk fun K hK=>?_|refine zs2 ?_));refine nY ?_;(repeat(first|refine gk fun K hK=>?_|refine zs2 ?_));refine sX ?_;(repeat(first|refine gk fun K hK=>?_|refine zs2 ?_))
    refine ay ?_
    (repeat(first|refine gk fun K hK=>?_|refine zs2 ?_));(refine gar ?_;refine jo ?_;refine aJ ?_;refine zs5 ?_;refine zs7 ?_;refine ae ?_);(repeat(first|refine gk fun K hK=>?_|refine zs2 ?_))
    refine ay ?_
    (repeat(first|refine gk fun K hK=>?_|refine zs2 ?_));refine aQ ?_;(repeat(first|refine gk fun K hK=>?_|refine zs2 ?_))
    (refine aq (ai (sl':=[(1,.pt (dL n m den)),(3,zI 0)]) (ow':=[]) au aw) ?_)
    refine aH (fun r s=>∃k,k≤m.length∧r=m.length-k∧ck n m=ck n (m.drop k)∧s=⟨[(1,.pt (dL n m den)),(3,zI (k:Nat))],[]⟩) (m:=m.length) ⟨0,Nat.zero_le _,rfl,rfl,rfl⟩ fun r s hs=>?_
    obtain⟨k,hk,rfl,hsc,rfl⟩:=hs
    by_cases hkl:k<m.length
    ·obtain⟨l,hl⟩:=get_some hkl
     by_cases hln:l.length=n
     ·(repeat(first|refine gk fun K hK=>?_|refine zs2 ?_));refine gI ?_;(repeat(first|refine gk fun K hK=>?_|refine zs2 ?_))
      refine av ?_
      (repeat(first|refine gk fun K hK=>?_|refine zs2 ?_));refine Du ?_;(repeat(first|refine gk fun K hK=>?_|refine zs2 ?_))
      refine ay ?_
      (repeat(first|refine gk fun K hK=>?_|refine zs2 ?_));refine aQ ?_;(repeat(first|refine gk fun K hK=>?_|refine zs2 ?_))
      (refine aq (ai (sl':=[(1,.pt (dL n m den)),(3,zI (k:Nat)),(4,zI 0)]) (ow':=[]) au aw) ?_)
      refine aH (fun r s=>∃j,j≤n∧r=n-j∧(∀z∈l.take j,inb 1000000000000000 z=true)∧s=⟨[(1,.pt (dL n m den)),(3,zI (k:Nat)),(4,zI (j:Nat))],[]⟩) (m:=n) ⟨0,Nat.zero_le _,rfl,fun z h=>absurd h (by simp),rfl⟩ fun r s hs=>?_
      obtain⟨j,hj,rfl,hin,rfl⟩:=hs
      by_cases hjl:j<n
      ·obtain⟨z,hz⟩:=get_some (m:=l) (k:=j) (by omega)
       have FT:=uY z
       by_cases hb:inb 1000000000000000 z=true
       ·rw[hb]at FT
        (repeat(first|refine gk fun K hK=>?_|refine zs2 ?_));refine pN ?_;(repeat(first|refine gk fun K hK=>?_|refine zs2 ?_))
        refine av ?_
        (repeat(first|refine gk fun K hK=>?_|refine zs2 ?_));refine Dt ?_;(repeat(first|refine gk fun K hK=>?_|refine zs2 ?_))
        refine ay ?_
        (repeat(first|refine gk fun K hK=>?_|refine zs2 ?_));refine ba ?_;(repeat(first|refine gk fun K hK=>?_|refine zs2 ?_))
        simp only[nx,inB]
        exact⟨n-(j+1),_,by omega,(ai (sl':=[(1,.pt (dL n m den)),(3,zI (k:Nat)),(4,zI ((j+1:Nat):Int))]) (ow':=[]) au aw),j+1,by omega,rfl,fun x hx=>by
         rw[bc hz,List.mem_append]at hx
         rcases hx with hx|hx
         ·exact hin x hx
         ·rw[List.mem_singleton.1 hx];exact hb,rfl⟩
       ·have hb':inb 1000000000000000 z=false:=by simpa using hb
        have EZ:=AH (dim:=n) hl (by omega) (List.mem_of_getElem? hz) hb'
        rw[hb']at FT
        (repeat(first|refine gk fun K hK=>?_|refine zs2 ?_));refine pN ?_;(repeat(first|refine gk fun K hK=>?_|refine zs2 ?_))
        refine av ?_
        (repeat(first|refine gk fun K hK=>?_|refine zs2 ?_));refine Dt ?_;(repeat(first|refine gk fun K hK=>?_|refine zs2 ?_))
        refine av ?_
        (repeat(first|refine gk fun K hK=>?_|refine zs2 ?_));refine aQ ?_;(repeat(first|refine gk fun K hK=>?_|refine zs2 ?_))
        rw[hsc,EZ]
        exact⟨_,Sh.refl,.one (.tmp 2) _ rfl (.tmp 2 rfl)⟩
      ·obtain rfl:j=n:=by omega
       have hnx:=yP (dim:=j) hl (by omega) (fun z hz=>hin z (by rw[List.take_of_length_le (by omega)];exact hz))
       (repeat(first|refine gk fun K hK=>?_|refine zs2 ?_));refine pN ?_;(repeat(first|refine gk fun K hK=>?_|refine zs2 ?_))
       refine ay ?_
       (repeat(first|refine gk fun K hK=>?_|refine zs2 ?_));refine ba ?_;(repeat(first|refine gk fun K hK=>?_|refine zs2 ?_))
       simp only[nx,inB]
       exact⟨m.length-(k+1),_,by omega,(ai (sl':=[(1,.pt (dL j m den)),(3,zI ((k+1:Nat):Int))]) (ow':=[]) au aw),k+1,by omega,rfl,hsc.trans hnx,rfl⟩
     ·have EZ:=vT (dim:=n) hl (by omega)
      (repeat(first|refine gk fun K hK=>?_|refine zs2 ?_));refine gI ?_;(repeat(first|refine gk fun K hK=>?_|refine zs2 ?_))
      refine av ?_
      (repeat(first|refine gk fun K hK=>?_|refine zs2 ?_));refine Du ?_;(repeat(first|refine gk fun K hK=>?_|refine zs2 ?_))
      refine av ?_
      (repeat(first|refine gk fun K hK=>?_|refine zs2 ?_));refine aQ ?_;(repeat(first|refine gk fun K hK=>?_|refine zs2 ?_))
      rw[hsc,EZ]
      exact⟨_,Sh.refl,.one (.tmp 2) _ rfl (.tmp 2 rfl)⟩
    ·obtain rfl:k=m.length:=by omega
     rw[yO]at hsc
     (repeat(first|refine gk fun K hK=>?_|refine zs2 ?_));refine gI ?_;(repeat(first|refine gk fun K hK=>?_|refine zs2 ?_))
     refine ay ?_
     (repeat(first|refine gk fun K hK=>?_|refine zs2 ?_));refine aQ ?_;(repeat(first|refine gk fun K hK=>?_|refine zs2 ?_))
     rw[hsc]
     exact⟨_,Sh.refl,.one (.tmp 2) _ rfl (.tmp 2 rfl)⟩
  ·rw[show(decide (1≤den)&&decide (den≤1000000000000000))=false by rw[Bool.and_eq_false_iff,decide_eq_false_iff_not,decide_eq_false_iff_not];omega]at W2
   have EC:lck dim m den=2:=if_pos (by omega)
   refine aF Tryz.func32 af rfl rfl rfl fun X0=>?_
   simp only[aA]
   (repeat(first|refine gk fun K hK=>?_|refine zs2 ?_));refine nY ?_;(repeat(first|refine gk fun K hK=>?_|refine zs2 ?_));refine sX ?_;(repeat(first|refine gk fun K hK=>?_|refine zs2 ?_))
   refine av ?_
   (repeat(first|refine gk fun K hK=>?_|refine zs2 ?_));refine aQ ?_;(repeat(first|refine gk fun K hK=>?_|refine zs2 ?_))
   rw[EC]
   exact⟨_,Sh.refl,.one (.tmp 2) _ rfl (.tmp 2 rfl)⟩
 ·rw[show(decide (1≤dim)&&decide (dim≤6))=false by rw[Bool.and_eq_false_iff,decide_eq_false_iff_not,decide_eq_false_iff_not];omega]at W1
  have EC:lck dim m den=2:=if_pos (by omega)
  refine aF Tryz.func32 af rfl rfl rfl fun X0=>?_
  simp only[aA]
  (repeat(first|refine gk fun K hK=>?_|refine zs2 ?_));refine nY ?_;(repeat(first|refine gk fun K hK=>?_|refine zs2 ?_));refine sX ?_;(repeat(first|refine gk fun K hK=>?_|refine zs2 ?_))
  refine av ?_
  (repeat(first|refine gk fun K hK=>?_|refine zs2 ?_));refine aQ ?_;(repeat(first|refine gk fun K hK=>?_|refine zs2 ?_))
  rw[EC]
  exact⟨_,Sh.refl,.one (.tmp 2) _ rfl (.tmp 2 rfl)⟩
end DW
end
end Go.Proofs.YtcgjmdpcplhanaaGreat
