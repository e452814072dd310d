/- Lemmas for the law: E34 E29 -/
import Derived.Test.YtcgjmdpcplhanaaGreatZi12
namespace Go.Proofs.YtcgjmdpcplhanaaGreat
section
theorem Pq{p q:Prop}(h:q)(f:Wq q->p:=by(intro hW;(refine il ?_;refine xh ?_;refine bc ?_);exact hW.out)):p:=f ⟨h⟩
theorem Ja{p q:Prop}(h:q)(f:Wq q->p:=by(intro hW;((first|(refine yj rfl rfl rfl rfl ?_ ?_;(focus(apply br;exact rfl)))|(refine aLs rfl rfl rfl rfl ?_ ?_;(focus(apply br;(conv=>lhs;whnf);(first|done|exact rfl|(apply bq;(first|(apply aB;omega)|(apply aF;omega)|assumption|(simp;done)))))))|refine aLw rfl rfl rfl rfl cE zb1 ?_));exact hW.out)):p:=f ⟨h⟩
theorem P8{p q:Prop}(h:q)(f:Wq q->p:=by(intro hW;((first|(refine yj rfl rfl rfl rfl ?_ ?_;(focus(apply br;exact rfl)))|(refine aLs rfl rfl rfl rfl ?_ ?_;(focus(apply br;(conv=>lhs;whnf);(first|done|exact rfl|(apply bq;(first|(apply aB;omega)|(apply aF;omega)|assumption|(simp;done)))))))|refine aLw rfl rfl rfl rfl cE xp ?_));exact hW.out)):p:=f ⟨h⟩
theorem P9{p q:Prop}(h:q)(f:Wq q->p:=by(intro hW;((first|(refine yj rfl rfl rfl rfl ?_ ?_;(focus(apply br;exact rfl)))|(refine aLs rfl rfl rfl rfl ?_ ?_;(focus(apply br;(conv=>lhs;whnf);(first|done|exact rfl|(apply bq;(first|(apply aB;omega)|(apply aF;omega)|assumption|(simp;done)))))))|refine aLw rfl rfl rfl rfl cE xt ?_));exact hW.out)):p:=f ⟨h⟩
theorem yB{p q:Prop}(h:q)(f:Wq q->p:=by(intro hW;((first|(refine aLs0 rfl rfl rfl rfl ?_ ?_;(focus(apply br;(conv=>lhs;whnf);(first|done|exact rfl|(apply bq;(first|(apply aB;omega)|(apply aF;omega)|assumption|(simp;done)))))))|refine aLw rfl rfl rfl rfl cE ry ?_));exact hW.out)):p:=f ⟨h⟩
theorem I9{p q:Prop}(h:q)(f:Wq q->p:=by(intro hW;((first|(refine aLs rfl rfl rfl rfl ?_ ?_;(focus(apply br;(conv=>lhs;whnf);(first|done|exact rfl|(apply bq;(first|(apply aB;omega)|(apply aF;omega)|assumption|(simp;done)))))))|refine aLw rfl rfl rfl rfl cE zb6 ?_));exact hW.out)):p:=f ⟨h⟩
theorem Qa{p q:Prop}(h:q)(f:Wq q->p:=by(intro hW;((first|(refine aLs rfl rfl rfl rfl ?_ ?_;(focus(apply br;(conv=>lhs;whnf);(first|done|exact rfl|(apply bq;(first|(apply aB;omega)|(apply aF;omega)|assumption|(simp;done)))))))|refine aLw rfl rfl rfl rfl cE xt ?_));exact hW.out)):p:=f ⟨h⟩
theorem zs131{p q:Prop}(h:q)(f:Wq q->p:=by(intro hW;((first|(refine yj rfl rfl rfl rfl ?_ ?_;(focus(apply br;exact rfl)))|(refine aLs rfl rfl rfl rfl ?_ ?_;(focus(apply br;(conv=>lhs;whnf);(first|done|exact rfl|(apply bq;(first|(apply aB;omega)|(apply aF;omega)|assumption|(simp;done)))))))|refine aLw rfl rfl rfl rfl cE zb2 ?_));exact hW.out)):p:=f ⟨h⟩
theorem zs249{p q:Prop}(h:q)(f:Wq q->p:=by(intro hW;(refine qC ?_;refine zs91 ?_;refine zs4 ?_;refine Qa ?_;refine pL ?_;refine Aw ?_;refine sZ ?_;refine yB ?_;refine P9 ?_;refine Ja ?_;refine zs131 ?_;refine P8 ?_;refine I9 ?_;refine uI ?_;refine zs4 ?_;refine Qa ?_;refine pL ?_;refine Aw ?_;refine sZ ?_;refine lO ?_);exact hW.out)):p:=f ⟨h⟩
theorem yo{p q:Prop}(h:q)(f:Wq q->p:=by(intro hW;(refine zs2 ?_;refine Pq ?_;refine zs2 ?_;refine zs249 ?_);exact hW.out)):p:=f ⟨h⟩
theorem Pp{p q:Prop}(h:q)(f:Wq q->p:=by(intro hW;(refine ck ?_;refine zs8 ?_;refine zs8 ?_;refine zs10 ?_;refine pL ?_;refine zs8 ?_;refine zs10 ?_;refine pL ?_;refine zs95 ?_;refine Az ?_;refine nB ?_;refine de ?_);exact hW.out)):p:=f ⟨h⟩
theorem Cm{p q:Prop}(h:q)(f:Wq q->p:=by(intro hW;(refine te ?_;refine lP ?_;refine zs5 ?_;refine zs7 ?_;refine bc ?_);exact hW.out)):p:=f ⟨h⟩
end
section
open Go.RowKit
namespace DW
set_option maxRecDepth 20000
set_option maxHeartbeats 2000000
theorem MW{X:Nat->Prop}{w:World}{dim den:Int}{m:Mx.Mat}{v:Value}(h:AR X w (dL dim m den) v):∃u,v= .agg #[.int .i64 dim,u,.int .i64 den]/\AR X w (dM m) u:=by
 simp only[dL,AR,ASt,zI]at h;obtain⟨cs,rfl,u1,r1,e1,⟨rfl,_⟩,_,u2,r2,e2,h2,_,u3,r3,e3,⟨rfl,_⟩,_,rfl⟩:=h;have h3:=h2;obtain⟨a,c,rfl,_⟩:=h3;refine⟨_,?_,by simp only[dM,AR];exact h2⟩;have:cs.toList=[.int .i64 dim,.slice a (m.map dI).length c,.int .i64 den]:=by rw[e1,e2,e3];simp[Value.cells]
 exact iq _ (cU.1 this)
theorem xN(dim den:Int)(m:List (List Int))(hd:I64 dim)(hd2:I64 den)(hm:m.length<=1000000000)(hr:∀r∈m,r.length<=1000000000):Fn Tryz.prog 33 [dL dim m den] (zI (lck dim m den)):=by
 refine⟨enters_of Tryz.func33 ah rfl,fun X w vs hX hv=>?_⟩;simp only[ATp]at hv;obtain⟨v,rest,e,h1,rfl⟩:=hv;have:vs= #[v]:=cU.1 e;subst this;obtain⟨u,rfl,h2⟩:=MW h1;exact(J2 dim den m u hd hd2 hm hr w (MV h2)).mono fun e w' ⟨h,hb⟩=>⟨_,h,Kq _,hb⟩
def lgt(dim:Int)(m:List (List Int)):Bool:=!(decide (dim=6)||(decide (8<m.length)&&decide (m.length<=64))||decide (70<m.length))&&m.all (fun l=>decide (l.length<=10))
theorem G5(dim den:Int)(m:List (List Int)):Fn Tryz.prog 30 [dL dim m den] (.sc (.bool (lgt dim m))):=by
 have W1:=tH dim 6 6;by_cases c1:dim=6
 ·subst c1;rw[show(decide ((6:Int)<=6)&&decide ((6:Int)<=6))=true from rfl]at W1;have EC:lgt 6 m=false:=rfl;refine bh Tryz.func30 ah rfl rfl rfl fun X0=>?_;simp only[aK];refine yo ?_;refine bs ?_;refine lg ?_;rw[EC];exact⟨_,Sh.refl, .one (.tmp 2) _ rfl (.tmp 2 rfl)⟩
 ·rw[show(decide (6<=dim)&&decide (dim<=6))=false by rw[yK,bU,bU];omega]at W1;by_cases c2:8<m.length
  ·have h8:decide ((m.length:Int)>8)=true:=aB aa;by_cases c3:m.length<=64
   ·have h64:decide ((m.length:Int)<=64)=true:=aB aa;have EC:lgt dim m=false:=by unfold lgt;rw[aB c2,aB c3];simp
    refine bh Tryz.func30 ah rfl rfl rfl fun X0=>?_;simp only[aK];refine yo ?_;refine bs ?_;refine lg ?_;rw[EC];exact⟨_,Sh.refl, .one (.tmp 2) _ rfl (.tmp 2 rfl)⟩
   ·have h64:decide ((m.length:Int)<=64)=false:=aF aa;by_cases c4:70<m.length
    ·have h70:decide ((m.length:Int)>70)=true:=aB aa;have EC:lgt dim m=false:=by unfold lgt;rw[aB c4];simp
     refine bh Tryz.func30 ah rfl rfl rfl fun X0=>?_;simp only[aK];refine yo ?_;refine bs ?_;refine lg ?_;rw[EC];exact⟨_,Sh.refl, .one (.tmp 2) _ rfl (.tmp 2 rfl)⟩
    ·have h70:decide ((m.length:Int)>70)=false:=aF aa;have EC:lgt dim m=m.all (fun l=>decide (l.length<=10)):=by unfold lgt;rw[aF c1,aF c3,aF c4,Bool.and_false,Bool.or_self,Bool.or_self,Bool.not_false,uS]
     rw[EC];refine bh Tryz.func30 ah rfl rfl rfl fun X0=>?_;simp only[aK];refine yo ?_;refine bK ?_;refine fI ?_
     (refine av (aE (sl':=[(1, .pt (dL dim m den)),(3,zI 0)]) (ow':=[]) aO aS) ?_)
     refine bB (fun r s=>∃k,k<=m.length/\r=m.length-k/\(∀l∈m.take k,l.length<=10)/\s=⟨[(1, .pt (dL dim m den)),(3,zI (k:Nat))],[]⟩) (m:=m.length) ⟨0,bg _,rfl,fun z h=>absurd h aV,rfl⟩ fun r s hs=>?_;obtain⟨k,hk,rfl,hin,rfl⟩:=hs;by_cases hkl:k<m.length
     ·obtain⟨l,hl⟩:=get_some hkl;by_cases hb:l.length<=10
      ·refine mB ?_;refine bs ?_;refine Cm ?_;refine qB ?_;simp only[nx,inB];exact⟨m.length-(k+1),_,by omega,(aE (sl':=[(1, .pt (dL dim m den)),(3,zI ((k+1:Nat):Int))]) (ow':=[]) aO aS),k+1,by omega,rfl,fun x hx=>by
        rw[cM hl,gA]at hx;rcases hx with hx|hx
        ·exact hin x hx
        ·rw[cr.1 hx];exact hb,rfl⟩
      ·have EZ : m.all (fun l => decide (l.length <= 10)) = false := by
        rw[List.all_eq_false];exact⟨l,bG hl,by simpa using hb⟩
       refine mB ?_;refine bs ?_;refine Cm ?_;refine bs ?_;refine lg ?_;rw[EZ];exact⟨_,Sh.refl, .one (.tmp 2) _ rfl (.tmp 2 rfl)⟩
     ·obtain rfl:k=m.length:=by omega
      have EZ:m.all (fun l=>decide (l.length<=10))=true:=by
       rw[eh];intro l hl;exact aB (hin l (by rw[gO];exact hl))
      refine mB ?_;refine bK ?_;refine lg ?_;rw[EZ];exact⟨_,Sh.refl, .one (.tmp 2) _ rfl (.tmp 2 rfl)⟩
  ·have h8:decide ((m.length:Int)>8)=false:=aF aa;have h70:decide ((m.length:Int)>70)=false:=aF aa;have EC:lgt dim m=m.all (fun l=>decide (l.length<=10)):=by unfold lgt;rw[aF c1,aF c2,aF (show¬70<m.length by omega),yO,Bool.or_self,Bool.or_self,Bool.not_false,uS]
   rw[EC];refine bh Tryz.func30 ah rfl rfl rfl fun X0=>?_;simp only[aK];refine yo ?_;refine bK ?_;refine fI ?_
   (refine av (aE (sl':=[(1, .pt (dL dim m den)),(3,zI 0)]) (ow':=[]) aO aS) ?_)
   refine bB (fun r s=>∃k,k<=m.length/\r=m.length-k/\(∀l∈m.take k,l.length<=10)/\s=⟨[(1, .pt (dL dim m den)),(3,zI (k:Nat))],[]⟩) (m:=m.length) ⟨0,bg _,rfl,fun z h=>absurd h aV,rfl⟩ fun r s hs=>?_;obtain⟨k,hk,rfl,hin,rfl⟩:=hs;by_cases hkl:k<m.length
   ·obtain⟨l,hl⟩:=get_some hkl;by_cases hb:l.length<=10
    ·refine mB ?_;refine bs ?_;refine Cm ?_;refine qB ?_;simp only[nx,inB];exact⟨m.length-(k+1),_,by omega,(aE (sl':=[(1, .pt (dL dim m den)),(3,zI ((k+1:Nat):Int))]) (ow':=[]) aO aS),k+1,by omega,rfl,fun x hx=>by
      rw[cM hl,gA]at hx;rcases hx with hx|hx
      ·exact hin x hx
      ·rw[cr.1 hx];exact hb,rfl⟩
    ·have EZ : m.all (fun l => decide (l.length <= 10)) = false := by
      rw[List.all_eq_false];exact⟨l,bG hl,by simpa using hb⟩
     refine mB ?_;refine bs ?_;refine Cm ?_;refine bs ?_;refine lg ?_;rw[EZ];exact⟨_,Sh.refl, .one (.tmp 2) _ rfl (.tmp 2 rfl)⟩
   ·obtain rfl:k=m.length:=by omega
    have EZ:m.all (fun l=>decide (l.length<=10))=true:=by
     rw[eh];intro l hl;exact aB (hin l (by rw[gO];exact hl))
    refine mB ?_;refine bK ?_;refine lg ?_;rw[EZ];exact⟨_,Sh.refl, .one (.tmp 2) _ rfl (.tmp 2 rfl)⟩
end DW
end
section
open Go.RowKit
namespace DW
set_option maxRecDepth 20000
set_option maxHeartbeats 1000000
theorem OJ(m:List (List Int))(hm:m.length<=1000000)(hm2:∀l∈m,l.length<=1000000)(hm3:∀l∈m,∀z∈l,Hf z)(K:Nat)(hK:hdr K=false):FnG Tryz.prog 114 [dW m] [] (.own K) [(K,⟨113,1,(fil m).map dZ⟩)]:=by
 refine⟨enters_of Tryz.func114 ah rfl,Bx.mv (a:=3) ?_ rfl hK⟩;refine Sp Tryz.func114 rfl rfl (fun _ hp=>by cases hp) fun X0=>?_;simp only[aK];refine td ?_;refine jA ?_;refine av (fG (t:=3) (k:=3) (T:=113) (wd:=1) jf rfl rfl cG) ?_
 (refine av (aE (sl':=[(0,dW m),(3,.own 3),(4,zI 0)]) (ow':=[(3,⟨113,1,[]⟩)]) aO aS) ?_)
 refine bB (fun r s=>∃k,k<=m.length/\r=m.length-k/\s=⟨[(0,dW m),(3,.own 3),(4,zI (k:Nat))],[(3,⟨113,1,(fil (m.take k)).map dZ⟩)]⟩) (m:=m.length) ⟨0,bg _,rfl,rfl⟩ fun r s hs=>?_;obtain⟨k,hk,rfl,rfl⟩:=hs;by_cases hkl:k<m.length
 ·obtain⟨l,hl⟩:=get_some hkl;have hll:=hm2 l (bG hl);have hfl:=St (m.take k);rw[bf]at hfl;have hfl2:(fil (m.take k)).length<=1000000:=aA hfl aa;clear hfl;have hsn:=OK (m.take k) l;rw[<-cM hl]at hsn;obtain⟨F,hF⟩:∃F,F=fil (m.take k):=⟨_,rfl⟩;rw[<-hF]at hsn hfl2;rw[<-hF];clear hF;refine jy ?_;refine PJ ?_;refine oW ?_
  (refine av (aE (sl':=[(0,dW m),(3,.own 3),(4,zI (k:Nat)),(5,.sc (.bool true)),(6,zI 0)]) (ow':=[(3,⟨113,1,F.map dZ⟩)]) aO aS) ?_)
  refine bB (fun r s=>∃j b,j<=l.length/\r=l.length-j/\b=(l.take j).all (fun z=>decide (z=0))/\s=⟨[(0,dW m),(3,.own 3),(4,zI (k:Nat)),(5,.sc (.bool b)),(6,zI (j:Nat))],[(3,⟨113,1,F.map dZ⟩)]⟩) (m:=l.length) ⟨0,true,bg _,rfl,rfl,rfl⟩ fun r s hs=>?_;obtain⟨j,b,hj,rfl,hb,rfl⟩:=hs;by_cases hjl:j<l.length
  ·obtain⟨z,hz⟩:=get_some hjl;have SX:=sq z (hm3 l (bG hl) z (bG hz));have gx:=sgn_z z;have hb':(l.take (j+1)).all (fun z=>decide (z=0))=(b&&decide (z=0)):=by rw[cM hz,List.all_append,<-hb];simp
   have hd:decide (sgn z=0)=decide (z=0):=by
    by_cases h:z=0
    ·rw[aB h,aB (gx.2 h)]
    ·rw[aF h,aF (fun e=>h (gx.1 e))]
   clear hb
   cases b with
   |true=>
    rw[uS]at hb';refine qA ?_;refine Pp ?_;refine jB ?_;simp only[nx,inB];exact⟨l.length-(j+1),_,by omega,(aE (sl':=[(0,dW m),(3,.own 3),(4,zI (k:Nat)),(5,.sc (.bool (decide (sgn z=0)))),(6,zI ((j+1:Nat):Int))]) (ow':=[(3,⟨113,1,F.map dZ⟩)]) aO aS),j+1,decide (sgn z=0),by omega,rfl,by rw[hb',hd],rfl⟩
   |false=>
    rw[yO]at hb';refine qA ?_;refine Pp ?_;refine jB ?_;simp only[nx,inB];exact⟨l.length-(j+1),_,by omega,(aE (sl':=[(0,dW m),(3,.own 3),(4,zI (k:Nat)),(5,.sc (.bool false)),(6,zI ((j+1:Nat):Int))]) (ow':=[(3,⟨113,1,F.map dZ⟩)]) aO aS),j+1,false,by omega,rfl,by rw[hb'],rfl⟩
  ·obtain rfl:j=l.length:=by omega
   rw[gO]at hb;rw[<-hb]at hsn;clear hb
   cases b with
   |true=>
    rw[an rfl]at hsn;refine zs2 ?_;refine tj ?_;refine bK ?_;refine vV ?_;refine qB ?_;simp only[nx,inB];exact⟨m.length-(k+1),_,by omega,(aE (sl':=[(0,dW m),(3,.own 3),(4,zI ((k+1:Nat):Int))]) (ow':=[(3,⟨113,1,F.map dZ⟩)]) aO aS),k+1,by omega,rfl,by rw[hsn]⟩
   |false=>
    rw[ai aq]at hsn;refine zs2 ?_;refine tj ?_;refine bK ?_;refine vV ?_;refine bs ?_;refine ck ?_;refine lP ?_;refine pJ ?_;refine Ax ?_;refine cS ?_;refine fJ ?_;refine zs2 ?_;simp only[nx,inB];exact⟨m.length-(k+1),_,by omega,(aE (sl':=[(0,dW m),(3,.own 3),(4,zI ((k+1:Nat):Int))]) (ow':=[(3,⟨113,1,F.map dZ++[dZ l]⟩)]) aO aS),k+1,by omega,rfl,by rw[hsn,eR];rfl⟩
 ·obtain rfl:k=m.length:=by omega
  rw[gO];refine nZ ?_;refine lj ?_;refine zs2 ?_;exact⟨_,(aE (sl':=[(2,.own 3)]) (ow':=[(3,⟨113,1,(fil m).map dZ⟩)]) aO aS),.own 2 3 rfl rfl,rfl⟩
end DW
end
end Go.Proofs.YtcgjmdpcplhanaaGreat
