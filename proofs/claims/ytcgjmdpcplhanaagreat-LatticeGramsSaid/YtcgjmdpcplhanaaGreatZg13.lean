/- Lemmas for the law: E34 E29 -/
import Derived.Test.YtcgjmdpcplhanaaGreatZg12
namespace Go.Proofs.YtcgjmdpcplhanaaGreat
section
theorem GG{p q:Prop}(h:q)(f:Wq q->p:=by(intro hW;((refine gar ?_;refine zs4 ?_;refine zs4 ?_;refine zs8 ?_;refine zs8 ?_;refine vL ?_;refine mQ ?_;refine zs8 ?_;refine vL ?_;refine mQ ?_;refine zS ?_;refine vK ?_;refine gB ?_;refine zs6 ?_;refine af ?_));exact hW.out)):p:=f ⟨h⟩
theorem vi{p q:Prop}(h:q)(f:Wq q->p:=by(intro hW;((refine gar ?_;refine qs ?_;refine aS ?_;refine zs4 ?_;refine dB ?_;refine aS ?_;refine zs5 ?_;refine zs7 ?_;refine af ?_));exact hW.out)):p:=f ⟨h⟩
theorem zs125{p q:Prop}(h:q)(f:Wq q->p:=by(intro hW;((first|(refine BV rfl rfl rfl rfl ?_ ?_;(focus(apply aJ;exact rfl)))|(refine aLs rfl rfl rfl rfl ?_ ?_;(focus(apply aJ;(conv=>lhs;whnf);(first|done|exact rfl|(apply aG;(first|(apply decide_eq_true;omega)|(apply decide_eq_false;omega)|assumption|(simp;done)))))))|refine aLw rfl rfl rfl rfl bp qz ?_));exact hW.out)):p:=f ⟨h⟩
theorem zs126{p q:Prop}(h:q)(f:Wq q->p:=by(intro hW;((first|(refine BV rfl rfl rfl rfl ?_ ?_;(focus(apply aJ;exact rfl)))|(refine aLs rfl rfl rfl rfl ?_ ?_;(focus(apply aJ;(conv=>lhs;whnf);(first|done|exact rfl|(apply aG;(first|(apply decide_eq_true;omega)|(apply decide_eq_false;omega)|assumption|(simp;done)))))))|refine aLw rfl rfl rfl rfl bp zb1 ?_));exact hW.out)):p:=f ⟨h⟩
theorem zs129{p q:Prop}(h:q)(f:Wq q->p:=by(intro hW;((first|(refine aLs rfl rfl rfl rfl ?_ ?_;(focus(apply aJ;(conv=>lhs;whnf);(first|done|exact rfl|(apply aG;(first|(apply decide_eq_true;omega)|(apply decide_eq_false;omega)|assumption|(simp;done)))))))|refine aLw rfl rfl rfl rfl bp zb6 ?_));exact hW.out)):p:=f ⟨h⟩
theorem Hc{p q:Prop}(h:q)(f:Wq q->p:=by(intro hW;((first|(refine aLs rfl rfl rfl rfl ?_ ?_;(focus(apply aJ;(conv=>lhs;whnf);(first|done|exact rfl|(apply aG;(first|(apply decide_eq_true;omega)|(apply decide_eq_false;omega)|assumption|(simp;done)))))))|refine aLw rfl rfl rfl rfl bp qz ?_));exact hW.out)):p:=f ⟨h⟩
theorem zs128{p q:Prop}(h:q)(f:Wq q->p:=by(intro hW;((first|(refine BV rfl rfl rfl rfl ?_ ?_;(focus(apply aJ;exact rfl)))|(refine aLs rfl rfl rfl rfl ?_ ?_;(focus(apply aJ;(conv=>lhs;whnf);(first|done|exact rfl|(apply aG;(first|(apply decide_eq_true;omega)|(apply decide_eq_false;omega)|assumption|(simp;done)))))))|refine aLw rfl rfl rfl rfl bp qw ?_));exact hW.out)):p:=f ⟨h⟩
theorem zs127{p q:Prop}(h:q)(f:Wq q->p:=by(intro hW;((first|(refine BV rfl rfl rfl rfl ?_ ?_;(focus(apply aJ;exact rfl)))|(refine aLs rfl rfl rfl rfl ?_ ?_;(focus(apply aJ;(conv=>lhs;whnf);(first|done|exact rfl|(apply aG;(first|(apply decide_eq_true;omega)|(apply decide_eq_false;omega)|assumption|(simp;done)))))))|refine aLw rfl rfl rfl rfl bp zb2 ?_));exact hW.out)):p:=f ⟨h⟩
theorem zs124{p q:Prop}(h:q)(f:Wq q->p:=by(intro hW;((first|(refine aLs0 rfl rfl rfl rfl ?_ ?_;(focus(apply aJ;(conv=>lhs;whnf);(first|done|exact rfl|(apply aG;(first|(apply decide_eq_true;omega)|(apply decide_eq_false;omega)|assumption|(simp;done)))))))|refine aLw rfl rfl rfl rfl bp mU ?_));exact hW.out)):p:=f ⟨h⟩
theorem ru{p q:Prop}(h:q)(f:Wq q->p:=by(intro hW;((refine gar ?_;refine mO ?_;refine aS ?_;refine zs91 ?_;refine zs4 ?_;refine Hc ?_;refine mQ ?_;refine jH ?_;refine jG ?_;refine zs124 ?_;refine zs125 ?_;refine zs126 ?_;refine zs127 ?_;refine zs128 ?_;refine zs129 ?_;refine gw ?_;refine zs4 ?_;refine Hc ?_;refine mQ ?_;refine jH ?_;refine jG ?_;refine gw ?_;refine af ?_));exact hW.out)):p:=f ⟨h⟩
theorem jM{p q:Prop}(h:q)(f:Wq q->p:=by(intro hW;((refine gar ?_;refine gA ?_;refine sZ ?_;refine af ?_));exact hW.out)):p:=f ⟨h⟩
end
section
open Go.RowKit
namespace DW
set_option maxRecDepth 20000
set_option maxHeartbeats 2000000
theorem Er{X:Nat->Prop}{w:World}{dim den:Int}{m:Mx.Mat}{v:Value}(h:AR X w (dL dim m den) v):∃u,v= .agg #[.int .i64 dim,u,.int .i64 den]/\AR X w (dM m) u:=by
 simp only[dL,AR,ASt,zI]at h;obtain⟨cs,rfl,u1,r1,e1,⟨rfl,_⟩,_,u2,r2,e2,h2,_,u3,r3,e3,⟨rfl,_⟩,_,rfl⟩:=h;have h3:=h2;obtain⟨a,c,rfl,_⟩:=h3;refine⟨_,?_,by simp only[dM,AR];exact h2⟩;have:cs.toList=[.int .i64 dim,.slice a (m.map dI).length c,.int .i64 den]:=by rw[e1,e2,e3];simp[Value.cells]
 exact congrArg _ (Array.toList_inj.1 this)
def lgt(dim:Int)(m:List (List Int)):Bool:=!(decide (dim=6)||(decide (8<m.length)&&decide (m.length<=64))||decide (70<m.length))&&m.all (fun l=>decide (l.length<=10))
theorem Jy(dim den:Int)(m:List (List Int)):Fn Tryz.prog 30 [dL dim m den] (.sc (.bool (lgt dim m))):=by
 have W1:=mV dim 6 6;by_cases c1:dim=6
 ·subst c1;rw[show(decide ((6:Int)<=6)&&decide ((6:Int)<=6))=true from rfl]at W1;have EC:lgt 6 m=false:=rfl;refine aP Tryz.func30 aa rfl rfl rfl fun X0=>?_;simp only[aD]
  (repeat(first|refine gk fun K hK=>?_|refine zs2 ?_));refine jM ?_;(repeat(first|refine gk fun K hK=>?_|refine zs2 ?_));refine ru ?_;(repeat(first|refine gk fun K hK=>?_|refine zs2 ?_))
  refine av ?_
  (repeat(first|refine gk fun K hK=>?_|refine zs2 ?_));refine bF ?_;(repeat(first|refine gk fun K hK=>?_|refine zs2 ?_))
  rw[EC];exact⟨_,Sh.refl, .one (.tmp 2) _ rfl (.tmp 2 rfl)⟩
 ·rw[show(decide (6<=dim)&&decide (dim<=6))=false by rw[Bool.and_eq_false_iff,decide_eq_false_iff_not,decide_eq_false_iff_not];omega]at W1;by_cases c2:8<m.length
  ·have h8:decide ((m.length:Int)>8)=true:=decide_eq_true (by omega);by_cases c3:m.length<=64
   ·have h64:decide ((m.length:Int)<=64)=true:=decide_eq_true (by omega);have EC:lgt dim m=false:=by unfold lgt;rw[decide_eq_true c2,decide_eq_true c3];simp
    refine aP Tryz.func30 aa rfl rfl rfl fun X0=>?_;simp only[aD]
    (repeat(first|refine gk fun K hK=>?_|refine zs2 ?_));refine jM ?_;(repeat(first|refine gk fun K hK=>?_|refine zs2 ?_));refine ru ?_;(repeat(first|refine gk fun K hK=>?_|refine zs2 ?_))
    refine av ?_
    (repeat(first|refine gk fun K hK=>?_|refine zs2 ?_));refine bF ?_;(repeat(first|refine gk fun K hK=>?_|refine zs2 ?_))
    rw[EC];exact⟨_,Sh.refl, .one (.tmp 2) _ rfl (.tmp 2 rfl)⟩
   ·have h64:decide ((m.length:Int)<=64)=false:=decide_eq_false (by omega);by_cases c4:70<m.length
    ·have h70:decide ((m.length:Int)>70)=true:=decide_eq_true (by omega);have EC:lgt dim m=false:=by unfold lgt;rw[decide_eq_true c4];simp
     refine aP Tryz.func30 aa rfl rfl rfl fun X0=>?_;simp only[aD]
     (repeat(first|refine gk fun K hK=>?_|refine zs2 ?_));refine jM ?_;(repeat(first|refine gk fun K hK=>?_|refine zs2 ?_));refine ru ?_;(repeat(first|refine gk fun K hK=>?_|refine zs2 ?_))
     refine av ?_
     (repeat(first|refine gk fun K hK=>?_|refine zs2 ?_));refine bF ?_;(repeat(first|refine gk fun K hK=>?_|refine zs2 ?_))
     rw[EC];exact⟨_,Sh.refl, .one (.tmp 2) _ rfl (.tmp 2 rfl)⟩
    ·have h70:decide ((m.length:Int)>70)=false:=decide_eq_false (by omega);have EC:lgt dim m=m.all (fun l=>decide (l.length<=10)):=by unfold lgt;rw[decide_eq_false c1,decide_eq_false c3,decide_eq_false c4,Bool.and_false,Bool.or_self,Bool.or_self,Bool.not_false,Bool.true_and]
     rw[EC];refine aP Tryz.func30 aa rfl rfl rfl fun X0=>?_;simp only[aD]
     (repeat(first|refine gk fun K hK=>?_|refine zs2 ?_));refine jM ?_;(repeat(first|refine gk fun K hK=>?_|refine zs2 ?_));refine ru ?_;(repeat(first|refine gk fun K hK=>?_|refine zs2 ?_))
     refine az ?_
     (repeat(first|refine gk fun K hK=>?_|refine zs2 ?_));refine aH ?_;(repeat(first|refine gk fun K hK=>?_|refine zs2 ?_))
     (refine ak (ai (sl':=[(1, .pt (dL dim m den)),(3,zI 0)]) (ow':=[]) an aw) ?_)
     refine aE (fun r s=>∃k,k<=m.length/\r=m.length-k/\(∀l∈m.take k,l.length<=10)/\s=⟨[(1, .pt (dL dim m den)),(3,zI (k:Nat))],[]⟩) (m:=m.length) ⟨0,Nat.zero_le _,rfl,fun z h=>absurd h (by simp),rfl⟩ fun r s hs=>?_;obtain⟨k,hk,rfl,hin,rfl⟩:=hs;by_cases hkl:k<m.length
     ·obtain⟨l,hl⟩:=get_some hkl;by_cases hb:l.length<=10
      ·(repeat(first|refine gk fun K hK=>?_|refine zs2 ?_));refine iu ?_;(repeat(first|refine gk fun K hK=>?_|refine zs2 ?_))
       refine av ?_
       (repeat(first|refine gk fun K hK=>?_|refine zs2 ?_));refine vi ?_;(repeat(first|refine gk fun K hK=>?_|refine zs2 ?_))
       refine az ?_
       (repeat(first|refine gk fun K hK=>?_|refine zs2 ?_));refine aX ?_;(repeat(first|refine gk fun K hK=>?_|refine zs2 ?_))
       simp only[nx,inB];exact⟨m.length-(k+1),_,by omega,(ai (sl':=[(1, .pt (dL dim m den)),(3,zI ((k+1:Nat):Int))]) (ow':=[]) an aw),k+1,by omega,rfl,fun x hx=>by
        rw[ba hl,List.mem_append]at hx;rcases hx with hx|hx
        ·exact hin x hx
        ·rw[List.mem_singleton.1 hx];exact hb,rfl⟩
      ·have EZ : m.all (fun l => decide (l.length <= 10)) = false := by
        rw[List.all_eq_false];exact⟨l,List.mem_of_getElem? hl,by simpa using hb⟩
       (repeat(first|refine gk fun K hK=>?_|refine zs2 ?_));refine iu ?_;(repeat(first|refine gk fun K hK=>?_|refine zs2 ?_))
       refine av ?_
       (repeat(first|refine gk fun K hK=>?_|refine zs2 ?_));refine vi ?_;(repeat(first|refine gk fun K hK=>?_|refine zs2 ?_))
       refine av ?_
       (repeat(first|refine gk fun K hK=>?_|refine zs2 ?_));refine bF ?_;(repeat(first|refine gk fun K hK=>?_|refine zs2 ?_))
       rw[EZ];exact⟨_,Sh.refl, .one (.tmp 2) _ rfl (.tmp 2 rfl)⟩
     ·obtain rfl:k=m.length:=by omega
      have EZ:m.all (fun l=>decide (l.length<=10))=true:=by
       rw[List.all_eq_true];intro l hl;exact decide_eq_true (hin l (by rw[List.take_length];exact hl))
      (repeat(first|refine gk fun K hK=>?_|refine zs2 ?_));refine iu ?_;(repeat(first|refine gk fun K hK=>?_|refine zs2 ?_))
      refine az ?_
      (repeat(first|refine gk fun K hK=>?_|refine zs2 ?_));refine bF ?_;(repeat(first|refine gk fun K hK=>?_|refine zs2 ?_))
      rw[EZ];exact⟨_,Sh.refl, .one (.tmp 2) _ rfl (.tmp 2 rfl)⟩
  ·have h8:decide ((m.length:Int)>8)=false:=decide_eq_false (by omega);have h70:decide ((m.length:Int)>70)=false:=decide_eq_false (by omega);have EC:lgt dim m=m.all (fun l=>decide (l.length<=10)):=by unfold lgt;rw[decide_eq_false c1,decide_eq_false c2,decide_eq_false (show¬70<m.length by omega),Bool.false_and,Bool.or_self,Bool.or_self,Bool.not_false,Bool.true_and]
   rw[EC];refine aP Tryz.func30 aa rfl rfl rfl fun X0=>?_;simp only[aD]
   (repeat(first|refine gk fun K hK=>?_|refine zs2 ?_));refine jM ?_;(repeat(first|refine gk fun K hK=>?_|refine zs2 ?_));refine ru ?_;(repeat(first|refine gk fun K hK=>?_|refine zs2 ?_))
   refine az ?_
   (repeat(first|refine gk fun K hK=>?_|refine zs2 ?_));refine aH ?_;(repeat(first|refine gk fun K hK=>?_|refine zs2 ?_))
   (refine ak (ai (sl':=[(1, .pt (dL dim m den)),(3,zI 0)]) (ow':=[]) an aw) ?_)
   refine aE (fun r s=>∃k,k<=m.length/\r=m.length-k/\(∀l∈m.take k,l.length<=10)/\s=⟨[(1, .pt (dL dim m den)),(3,zI (k:Nat))],[]⟩) (m:=m.length) ⟨0,Nat.zero_le _,rfl,fun z h=>absurd h (by simp),rfl⟩ fun r s hs=>?_;obtain⟨k,hk,rfl,hin,rfl⟩:=hs;by_cases hkl:k<m.length
   ·obtain⟨l,hl⟩:=get_some hkl;by_cases hb:l.length<=10
    ·(repeat(first|refine gk fun K hK=>?_|refine zs2 ?_));refine iu ?_;(repeat(first|refine gk fun K hK=>?_|refine zs2 ?_))
     refine av ?_
     (repeat(first|refine gk fun K hK=>?_|refine zs2 ?_));refine vi ?_;(repeat(first|refine gk fun K hK=>?_|refine zs2 ?_))
     refine az ?_
     (repeat(first|refine gk fun K hK=>?_|refine zs2 ?_));refine aX ?_;(repeat(first|refine gk fun K hK=>?_|refine zs2 ?_))
     simp only[nx,inB];exact⟨m.length-(k+1),_,by omega,(ai (sl':=[(1, .pt (dL dim m den)),(3,zI ((k+1:Nat):Int))]) (ow':=[]) an aw),k+1,by omega,rfl,fun x hx=>by
      rw[ba hl,List.mem_append]at hx;rcases hx with hx|hx
      ·exact hin x hx
      ·rw[List.mem_singleton.1 hx];exact hb,rfl⟩
    ·have EZ : m.all (fun l => decide (l.length <= 10)) = false := by
      rw[List.all_eq_false];exact⟨l,List.mem_of_getElem? hl,by simpa using hb⟩
     (repeat(first|refine gk fun K hK=>?_|refine zs2 ?_));refine iu ?_;(repeat(first|refine gk fun K hK=>?_|refine zs2 ?_))
     refine av ?_
     (repeat(first|refine gk fun K hK=>?_|refine zs2 ?_));refine vi ?_;(repeat(first|refine gk fun K hK=>?_|refine zs2 ?_))
     refine av ?_
     (repeat(first|refine gk fun K hK=>?_|refine zs2 ?_));refine bF ?_;(repeat(first|refine gk fun K hK=>?_|refine zs2 ?_))
     rw[EZ];exact⟨_,Sh.refl, .one (.tmp 2) _ rfl (.tmp 2 rfl)⟩
   ·obtain rfl:k=m.length:=by omega
    have EZ:m.all (fun l=>decide (l.length<=10))=true:=by
     rw[List.all_eq_true];intro l hl;exact decide_eq_true (hin l (by rw[List.take_length];exact hl))
    (repeat(first|refine gk fun K hK=>?_|refine zs2 ?_));refine iu ?_;(repeat(first|refine gk fun K hK=>?_|refine zs2 ?_))
    refine az ?_
    (repeat(first|refine gk fun K hK=>?_|refine zs2 ?_));refine bF ?_;(repeat(first|refine gk fun K hK=>?_|refine zs2 ?_))
    rw[EZ];exact⟨_,Sh.refl, .one (.tmp 2) _ rfl (.tmp 2 rfl)⟩
end DW
end
section
open Go.RowKit
namespace DW
set_option maxRecDepth 20000
set_option maxHeartbeats 1000000
theorem Ge(m:List (List Int))(hm:m.length<=1000000)(hm2:∀l∈m,l.length<=1000000)(hm3:∀l∈m,∀z∈l,Hf z)(K:Nat)(hK:hdr K=false):FnG Tryz.prog 114 [dW m] [] (.own K) [(K,⟨113,1,(fil m).map dZ⟩)]:=by
 refine⟨enters_of Tryz.func114 aa rfl,uy.mv (a:=3) ?_ rfl hK⟩;refine zy Tryz.func114 rfl rfl (fun _ hp=>by cases hp) fun X0=>?_;simp only[aD]
 (repeat(first|refine gk fun K hK=>?_|refine zs2 ?_));refine bK ?_;(repeat(first|refine gk fun K hK=>?_|refine zs2 ?_));refine bK ?_;(repeat(first|refine gk fun K hK=>?_|refine zs2 ?_));refine aH ?_;(repeat(first|refine gk fun K hK=>?_|refine zs2 ?_))
 refine ak (cn (t:=3) (k:=3) (T:=113) (wd:=1) cr rfl rfl bD) ?_
 (refine ak (ai (sl':=[(0,dW m),(3,.own 3),(4,zI 0)]) (ow':=[(3,⟨113,1,[]⟩)]) an aw) ?_)
 refine aE (fun r s=>∃k,k<=m.length/\r=m.length-k/\s=⟨[(0,dW m),(3,.own 3),(4,zI (k:Nat))],[(3,⟨113,1,(fil (m.take k)).map dZ⟩)]⟩) (m:=m.length) ⟨0,Nat.zero_le _,rfl,rfl⟩ fun r s hs=>?_;obtain⟨k,hk,rfl,rfl⟩:=hs;by_cases hkl:k<m.length
 ·obtain⟨l,hl⟩:=get_some hkl;have hll:=hm2 l (List.mem_of_getElem? hl);have hfl:=JG (m.take k);rw[List.length_take]at hfl;have hfl2:(fil (m.take k)).length<=1000000:=Nat.le_trans hfl (by omega);clear hfl;have hsn:=Gf (m.take k) l;rw[<-ba hl]at hsn;obtain⟨F,hF⟩:∃F,F=fil (m.take k):=⟨_,rfl⟩;rw[<-hF]at hsn hfl2;rw[<-hF];clear hF
  (repeat(first|refine gk fun K hK=>?_|refine zs2 ?_));refine aK ?_;(repeat(first|refine gk fun K hK=>?_|refine zs2 ?_))
  refine av ?_
  (repeat(first|refine gk fun K hK=>?_|refine zs2 ?_));refine bF ?_;(repeat(first|refine gk fun K hK=>?_|refine zs2 ?_));refine aH ?_;(repeat(first|refine gk fun K hK=>?_|refine zs2 ?_))
  (refine ak (ai (sl':=[(0,dW m),(3,.own 3),(4,zI (k:Nat)),(5,.sc (.bool true)),(6,zI 0)]) (ow':=[(3,⟨113,1,F.map dZ⟩)]) an aw) ?_)
  refine aE (fun r s=>∃j b,j<=l.length/\r=l.length-j/\b=(l.take j).all (fun z=>decide (z=0))/\s=⟨[(0,dW m),(3,.own 3),(4,zI (k:Nat)),(5,.sc (.bool b)),(6,zI (j:Nat))],[(3,⟨113,1,F.map dZ⟩)]⟩) (m:=l.length) ⟨0,true,Nat.zero_le _,rfl,rfl,rfl⟩ fun r s hs=>?_;obtain⟨j,b,hj,rfl,hb,rfl⟩:=hs;by_cases hjl:j<l.length
  ·obtain⟨z,hz⟩:=get_some hjl;have SX:=oE z (hm3 l (List.mem_of_getElem? hl) z (List.mem_of_getElem? hz));have gx:=sgn_z z;have hb':(l.take (j+1)).all (fun z=>decide (z=0))=(b&&decide (z=0)):=by rw[ba hz,List.all_append,<-hb];simp
   have hd:decide (sgn z=0)=decide (z=0):=by
    by_cases h:z=0
    ·rw[decide_eq_true h,decide_eq_true (gx.2 h)]
    ·rw[decide_eq_false h,decide_eq_false (fun e=>h (gx.1 e))]
   clear hb
   cases b with
   |true=>
    rw[Bool.true_and]at hb'
    (repeat(first|refine gk fun K hK=>?_|refine zs2 ?_));refine gO ?_;(repeat(first|refine gk fun K hK=>?_|refine zs2 ?_))
    refine av ?_
    (repeat(first|refine gk fun K hK=>?_|refine zs2 ?_));refine GG ?_;(repeat(first|refine gk fun K hK=>?_|refine zs2 ?_));refine aX ?_;(repeat(first|refine gk fun K hK=>?_|refine zs2 ?_))
    simp only[nx,inB];exact⟨l.length-(j+1),_,by omega,(ai (sl':=[(0,dW m),(3,.own 3),(4,zI (k:Nat)),(5,.sc (.bool (decide (sgn z=0)))),(6,zI ((j+1:Nat):Int))]) (ow':=[(3,⟨113,1,F.map dZ⟩)]) an aw),j+1,decide (sgn z=0),by omega,rfl,by rw[hb',hd],rfl⟩
   |false=>
    rw[Bool.false_and]at hb'
    (repeat(first|refine gk fun K hK=>?_|refine zs2 ?_));refine gO ?_;(repeat(first|refine gk fun K hK=>?_|refine zs2 ?_))
    refine av ?_
    (repeat(first|refine gk fun K hK=>?_|refine zs2 ?_));refine GG ?_;(repeat(first|refine gk fun K hK=>?_|refine zs2 ?_));refine aX ?_;(repeat(first|refine gk fun K hK=>?_|refine zs2 ?_))
    simp only[nx,inB];exact⟨l.length-(j+1),_,by omega,(ai (sl':=[(0,dW m),(3,.own 3),(4,zI (k:Nat)),(5,.sc (.bool false)),(6,zI ((j+1:Nat):Int))]) (ow':=[(3,⟨113,1,F.map dZ⟩)]) an aw),j+1,false,by omega,rfl,by rw[hb'],rfl⟩
  ·obtain rfl:j=l.length:=by omega
   rw[List.take_length]at hb;rw[<-hb]at hsn;clear hb
   cases b with
   |true=>
    rw[if_pos rfl]at hsn
    (repeat(first|refine gk fun K hK=>?_|refine zs2 ?_));refine gO ?_;(repeat(first|refine gk fun K hK=>?_|refine zs2 ?_))
    refine az ?_
    (repeat(first|refine gk fun K hK=>?_|refine zs2 ?_));refine vn ?_;(repeat(first|refine gk fun K hK=>?_|refine zs2 ?_))
    refine az ?_
    (repeat(first|refine gk fun K hK=>?_|refine zs2 ?_));refine aX ?_;(repeat(first|refine gk fun K hK=>?_|refine zs2 ?_))
    simp only[nx,inB];exact⟨m.length-(k+1),_,by omega,(ai (sl':=[(0,dW m),(3,.own 3),(4,zI ((k+1:Nat):Int))]) (ow':=[(3,⟨113,1,F.map dZ⟩)]) an aw),k+1,by omega,rfl,by rw[hsn]⟩
   |false=>
    rw[if_neg (by decide)]at hsn
    (repeat(first|refine gk fun K hK=>?_|refine zs2 ?_));refine gO ?_;(repeat(first|refine gk fun K hK=>?_|refine zs2 ?_))
    refine az ?_
    (repeat(first|refine gk fun K hK=>?_|refine zs2 ?_));refine vn ?_;(repeat(first|refine gk fun K hK=>?_|refine zs2 ?_))
    refine av ?_
    (repeat(first|refine gk fun K hK=>?_|refine zs2 ?_));(refine gar ?_;refine zs4 ?_;refine zs4 ?_;refine zs4 ?_;refine dB ?_;refine aS ?_;refine jI ?_;refine ta ?_;refine zs6 ?_;refine af ?_);(repeat(first|refine gk fun K hK=>?_|refine zs2 ?_));refine aX ?_;(repeat(first|refine gk fun K hK=>?_|refine zs2 ?_))
    simp only[nx,inB];exact⟨m.length-(k+1),_,by omega,(ai (sl':=[(0,dW m),(3,.own 3),(4,zI ((k+1:Nat):Int))]) (ow':=[(3,⟨113,1,F.map dZ++[dZ l]⟩)]) an aw),k+1,by omega,rfl,by rw[hsn,List.map_append];rfl⟩
 ·obtain rfl:k=m.length:=by omega
  rw[List.take_length]
  (repeat(first|refine gk fun K hK=>?_|refine zs2 ?_));refine aK ?_;(repeat(first|refine gk fun K hK=>?_|refine zs2 ?_))
  refine az ?_
  (repeat(first|refine gk fun K hK=>?_|refine zs2 ?_))
  refine fC ?_
  (repeat(first|refine gk fun K hK=>?_|refine zs2 ?_))
  exact⟨_,(ai (sl':=[(2,.own 3)]) (ow':=[(3,⟨113,1,(fil m).map dZ⟩)]) an aw),.own 2 3 rfl rfl,rfl⟩
end DW
end
end Go.Proofs.YtcgjmdpcplhanaaGreat
