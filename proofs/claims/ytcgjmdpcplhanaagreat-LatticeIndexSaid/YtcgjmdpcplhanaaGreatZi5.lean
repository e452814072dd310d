/- Lemmas for the law: E7 E8 E9 -/
import Derived.Test.YtcgjmdpcplhanaaGreatZi4
namespace Go.Proofs.YtcgjmdpcplhanaaGreat
section
theorem zb43{p:Prop}(h:p:=by(apply Fq;(exact rfl);(focus((apply az;(conv=>lhs;whnf);(first|done|exact rfl))));(exact rfl))):p:=h
theorem xg{p q:Prop}(h:q)(f:Wq q->p:=by(intro hW;(refine aL1 rfl rfl rfl zb43 ?_);exact hW.out)):p:=f ⟨h⟩
theorem qF{p q:Prop}(h:q)(f:Wq q->p:=by(intro hW;(refine ck ?_;refine oR ?_;refine bc ?_);exact hW.out)):p:=f ⟨h⟩
theorem zs72{p q:Prop}(h:q)(f:Wq q->p:=by(intro hW;((refine pI (i:=i) rfl rfl rfl cO cO aH aj tz aj dC aj ah tA ?_));exact hW.out)):p:=f ⟨h⟩
theorem PB{p q:Prop}(h:q)(f:Wq q->p:=by(intro hW;(refine ck ?_;refine zs4 ?_;refine rq ?_;refine zs72 ?_;refine bc ?_);exact hW.out)):p:=f ⟨h⟩
theorem Ih{p q:Prop}(h:q)(f:Wq q->p:=by(intro hW;(refine aL1 rfl rfl rfl zb3 ?_);exact hW.out)):p:=f ⟨h⟩
theorem nA{p q:Prop}(h:q)(f:Wq q->p:=by(intro hW;(refine aL1 rfl rfl rfl xq ?_);exact hW.out)):p:=f ⟨h⟩
theorem zs79{p q:Prop}(h:q)(f:Wq q->p:=by(intro hW;(refine aL1 rfl rfl rfl (by(apply nX;(exact rfl);(exact lu);(focus((apply az;(conv=>lhs;whnf);(first|done|exact rfl))));(exact rfl);(exact rfl);(assumption);(exact rfl))) ?_);exact hW.out)):p:=f ⟨h⟩
theorem IQ{p q:Prop}(h:q)(f:Wq q->p:=by(intro hW;(refine qC ?_;refine xi ?_;refine gL ?_;refine CU ?_;refine zs4 ?_;refine nA ?_;refine zs4 ?_;refine zs79 ?_;refine gZ ?_;refine gZ ?_;refine kp ?_;refine bc ?_);exact hW.out)):p:=f ⟨h⟩
theorem vS{p q:Prop}(h:q)(f:Wq q->p:=by(intro hW;(refine yq ?_;refine gL ?_;refine nA ?_);exact hW.out)):p:=f ⟨h⟩
theorem oc{p q:Prop}(h:q)(f:Wq q->p:=by(intro hW;(refine zs4 ?_;refine xg ?_;refine xg ?_);exact hW.out)):p:=f ⟨h⟩
theorem qE{p q:Prop}(h:q)(f:Wq q->p:=by(intro hW;(refine vS ?_;refine oc ?_);exact hW.out)):p:=f ⟨h⟩
theorem Ig{p q:Prop}(h:q)(f:Wq q->p:=by(intro hW;((refine dV (k:=4) (z:=(.agg #[.bool false,.slice none 0 0])) (d:=(.nm 0)) rfl rfl rfl rfl rfl ah aj aj dC aj aj cG ?_));exact hW.out)):p:=f ⟨h⟩
theorem zs209{p q:Prop}(h:q)(f:Wq q->p:=by(intro hW;(refine il ?_;refine tu ?_;refine Ig ?_;refine bc ?_);exact hW.out)):p:=f ⟨h⟩
theorem vQ{p q:Prop}(h:q)(f:Wq q->p:=by(intro hW;(refine zs2 ?_;refine zs209 ?_;refine zs2 ?_);exact hW.out)):p:=f ⟨h⟩
theorem Au{p q:Prop}(h:q)(f:Wq q->p:=by(intro hW;(refine aL1 rfl rfl rfl (by(first|(apply eP;(exact rfl);(focus((apply az;(conv=>lhs;whnf);(first|done|exact rfl))));(focus((apply az;(conv=>lhs;whnf);(first|done|exact rfl))));(exact rfl))|(apply QI;(exact rfl);(focus((apply az;(conv=>lhs;whnf);(first|done|exact rfl))));(focus((apply az;(conv=>lhs;whnf);(first|done|exact rfl))));(kernel_rfl)))) ?_);exact hW.out)):p:=f ⟨h⟩
theorem Pz{p q:Prop}(h:q)(f:Wq q->p:=by(intro hW;(refine qC ?_;refine xi ?_;refine gL ?_;refine Au ?_;refine bc ?_);exact hW.out)):p:=f ⟨h⟩
theorem IU{p q:Prop}(h:q)(f:Wq q->p:=by(intro hW;(refine zs40 ?_;refine Ay ?_;refine gG ?_;refine oa ?_;refine pK ?_;refine pK ?_;refine zs39 ?_;refine kH ?_);exact hW.out)):p:=f ⟨h⟩
theorem zs77{p q:Prop}(h:q)(f:Wq q->p:=by(intro hW;((refine dV (k:=5) (z:=(.agg #[.bool false,.slice none 0 0])) (d:=(.nm 0)) rfl rfl rfl rfl rfl ah aj aj dC aj aj cG ?_));exact hW.out)):p:=f ⟨h⟩
theorem IY{p q:Prop}(h:q)(f:Wq q->p:=by(intro hW;(refine zs35 ?_;refine gG ?_;refine CV ?_;refine gG ?_;refine CV ?_;refine tf ?_;refine tf ?_;refine kH ?_);exact hW.out)):p:=f ⟨h⟩
theorem Co{p q:Prop}(h:q)(f:Wq q->p:=by(intro hW;(refine yq ?_;refine gZ ?_;refine bc ?_);exact hW.out)):p:=f ⟨h⟩
theorem zs80{p q:Prop}(h:q)(f:Wq q->p:=by(intro hW;((refine dV (k:=6) (z:=(.agg #[.bool false,.slice none 0 0])) (d:=(.nm 0)) rfl rfl rfl rfl rfl ah aj aj dC aj aj cG ?_));exact hW.out)):p:=f ⟨h⟩
theorem lj{p q:Prop}(h:q)(f:Wq q->p:=by(intro hW;(refine cF ?_;refine de ?_);exact hW.out)):p:=f ⟨h⟩
theorem zs74{p q:Prop}(h:q)(f:Wq q->p:=by(intro hW;(refine aL1 rfl rfl rfl (by(apply nX;(exact rfl);(focus((apply az;(conv=>lhs;whnf);(first|done|exact rfl))));(focus((apply az;(conv=>lhs;whnf);(first|done|exact rfl))));(exact rfl);(exact rfl);(focus((first|exact TIMES g aa)));(exact rfl))) ?_);exact hW.out)):p:=f ⟨h⟩
theorem PA{p q:Prop}(h:q)(f:Wq q->p:=by(intro hW;(refine ck ?_;refine zs4 ?_;refine pJ ?_;refine zs74 ?_;refine nA ?_;refine bc ?_);exact hW.out)):p:=f ⟨h⟩
theorem IM{p q:Prop}(h:q)(f:Wq q->p:=by(intro hW;(refine mD ?_;refine zs7 ?_;refine bc ?_);exact hW.out)):p:=f ⟨h⟩
theorem zs213{p q:Prop}(h:q)(f:Wq q->p:=by(intro hW;(refine il ?_;refine tu ?_;refine kp ?_;refine bc ?_);exact hW.out)):p:=f ⟨h⟩
theorem vP{p q:Prop}(h:q)(f:Wq q->p:=by(intro hW;(refine zs2 ?_;refine zs213 ?_;refine zs2 ?_);exact hW.out)):p:=f ⟨h⟩
theorem IT{p q:Prop}(h:q)(f:Wq q->p:=by(intro hW;(refine mD ?_;refine uJ ?_;refine bc ?_);exact hW.out)):p:=f ⟨h⟩
theorem IS{p q:Prop}(h:q)(f:Wq q->p:=by(intro hW;(refine qC ?_;refine fS ?_;refine Aw ?_;refine sZ ?_;refine nB ?_;refine bc ?_);exact hW.out)):p:=f ⟨h⟩
theorem od{p q:Prop}(h:q)(f:Wq q->p:=by(intro hW;(refine mC ?_;refine de ?_);exact hW.out)):p:=f ⟨h⟩
theorem Av{p q:Prop}(h:q)(f:Wq q->p:=by(intro hW;(refine aL1 rfl rfl rfl zb0 ?_);exact hW.out)):p:=f ⟨h⟩
end
section
open Go.RowKit
namespace DW
theorem KH(b x:Nat):Dg.vl b [x]=x:=by simp[Dg.vl]
set_option maxRecDepth 20000
set_option maxHeartbeats 1000000
theorem Ca(a b:Nat)(ha:(hd a).length<=300000000)(hb:(hd b).length<=300000000)(hb0:0<b):Fn Tryz.prog 168 [dN (hd a),dN (hd b)] (.tp [dN (hd (a/b)),dN (hd (a%b))]):=by
 refine bh Tryz.func168 ah rfl rfl rfl fun X0=>?_;simp only[aK];obtain⟨L,hL⟩:∃L,L=(hd a).length:=⟨_,rfl⟩;have hLc:((hd a).length:Int)=(L:Int):=by omega
 refine zs2 ?_;refine gar ?_;refine zs3 ?_;refine zs3 ?_;refine dX ?_;refine mD ?_;(refine M6 (k:=14) (T:=Tryz.prog.elem 40) (zv:=(.int .i64 0)) (d0:=(.sc (.int .i64 0))) (wd:=1) rfl rfl rfl rfl cO cO ah ah aj aj aj aj aj aa zb63 aj cG ?_);refine cS ?_;refine vZ ?_;refine zs2 ?_;refine I3 ?_;refine zs2 ?_
 (refine av (Kv (t:=7) (wd:=1) jf) ?_)
 (refine av (aE (sl':=[(0,dN (hd a)),(1,dN (hd b)),(6,.own 14),(7,.ls 1 []),(8,zI ((hd a).length-1))]) (ow':=[(14,⟨3,1,List.replicate L (zI 0)⟩)]) aO aS) ?_)
 refine bB (fun r s=>∃q m,r<=L/\q.length=L/\Dg.dig 65536 q/\m<b/\Dg.vl 65536 ((hd a).drop r)=b*Dg.vl 65536 (q.drop r)+m/\s=⟨[(0,dN (hd a)),(1,dN (hd b)),(6,.own 14),(7,dN (hd m)),(8,zI (r-1))],[(14,⟨3,1,q.map hN⟩)]⟩) (m:=L) ⟨List.replicate L 0,0,af _,by simp,Dg.iT aq _,hb0,by rw[lQ aa,lQ aV];simp[Dg.vl],by rw[Dn,<-hL,show hd 0=[]from List.length_eq_zero_iff.1 ((nj 0).2 rfl)];rfl⟩ fun r s hs=>?_;obtain⟨q,m,hr,hq,hdq,hm,hv,rfl⟩:=hs;by_cases hr0:r=0
 ·subst hr0;rw[dA,dA,jJ]at hv;have e1:a/b=Dg.vl 65536 q:=by rw[hv,Nat.mul_add_div hb0,Ct hm,bZ]
  have e2:a%b=m:=by rw[hv,Nat.mul_add_mod,ot hm]
  have T:=ze (l:=q) aa hdq e1.symm;clear hv;refine zs2 ?_;refine iZ ?_;refine bK ?_;refine av (ao (k:=14) aH aR aQ) ?_;refine cF ?_;refine jx ?_;refine zs4 ?_;refine zs6 ?_;refine cS ?_;rw[e2];exact⟨_,Sh.refl,.two (.tmp 4) (.tmp 5) _ _ rfl (.tmp 4 rfl) (.tmp 5 rfl)⟩
 ·obtain⟨i,rfl⟩:∃i,r=i+1:=⟨r-1,by omega⟩;have hi:i<(hd a).length:=by omega
  have hiq:i<q.length:=by omega
  have STEP:=Dg.zq (B:=65536) (a:=hd a) (o:=q) (i:=i) (d:=b) (r:=m) hi hiq hv;clear hv;have hx:=qe hi;have hxl:(hd a).getD i 0<65536:=Dg.bR (jV a) aq i;obtain⟨x,hxd⟩:∃x,x=(hd a).getD i 0:=⟨_,rfl⟩;rw[<-hxd]at hx hxl STEP;have hc:((i+1:Nat):Int)-1=(i:Int):=by omega
  have hml:(hd m).length<=(hd b).length:=kb aa;have T:=ze (l:=x::hd m) (by simp only[ir];omega) (fun y hy=>by
   rcases bP.1 hy with rfl|h
   ·exact hxl
   ·exact jV m y h) (n:=m*65536+x) (by rw[Dg.fN,jJ];omega)
  obtain⟨R,hR⟩:∃R,R=m*65536+x:=⟨_,rfl⟩;rw[<-hR]at T STEP;have hRb:R/b<65536:=by
   rw[tF hb0];have:=dh 65536 (show m+1<=b by omega);rw[bz 65536 b];omega
  have hRl:(hd R).length<=(hd b).length+1:=ju (by
   have h1:=qZ b;rw[eD];have h4:=dh 65536 (show m+1<=b by omega);have h5:=dh 65536 (bN h1);omega)
  have TIMES:∀g:Nat,g<65536->Fn Tryz.prog 155 [dN (hd b),dN [g]] (dN (hd (b*g))):=fun g hg=>by
   have:=Dw (hd b) [g] (jV b) (fun y hy=>by rw[cr.1 hy];exact hg) aa aV;rwa[jJ,KH]at this
  have hprod:∀g,g<65536->(hd (b*g)).length<=(hd b).length+1:=fun g hg=>ju (by
   have h1:=qZ b;rw[eD];have h4:b*g<=b*65536:=cL b aa;have h5:=Nat.mul_lt_mul_of_pos_right h1 (show 0<65536 by decide);omega)
  have hml2:(hd m).length<=300000000:=by omega
  clear hml hxd;refine zs2 ?_;refine iZ ?_;refine bs ?_;(refine gar ?_;refine zs4 ?_;refine zs4 ?_;refine Ih ?_;refine Av ?_;(refine Ur (k:=26) (T:=Tryz.prog.elem 40) rfl rfl rfl rfl cO aj dC aj ah ah aj aj aj cG ?_);refine zs4 ?_;refine Ax ?_;refine aL_sh (ao (k:=26) aH aR aQ) ?_;refine jx ?_;refine zs6 ?_;refine bc ?_);refine zs2 ?_;refine gar ?_;refine kp ?_;refine kp ?_;refine dX ?_
  (refine av (aE (sl':=[(0,dN (hd a)),(1,dN (hd b)),(6,.own 14),(7,dN (hd R)),(8,zI (i:Nat)),(9,zI ((0:Nat):Int)),(10,zI ((65535:Nat):Int))]) (ow':=[(14,⟨3,1,q.map hN⟩)]) aO aS) ?_)
  refine bB (fun r s=>∃lo hi,r=hi-lo/\lo<=hi/\hi<65536/\b*lo<=R/\R<b*(hi+1)/\s=⟨[(0,dN (hd a)),(1,dN (hd b)),(6,.own 14),(7,dN (hd R)),(8,zI (i:Nat)),(9,zI (lo:Nat)),(10,zI (hi:Nat))],[(14,⟨3,1,q.map hN⟩)]⟩) (m:=65535) ⟨0,65535,rfl,by omega,by omega,by omega,by
   rw[tF hb0]at hRb;rw[bz];exact hRb,rfl⟩ fun r s hs=>?_
  obtain⟨lo,hi',rfl,h1,h2,h3,h4,rfl⟩:=hs;by_cases hlh:lo=hi'
  ·subst hlh;have e1:R/b=lo:=by
    apply wm
    ·have:=(tF hb0).2 (by rw[bz];exact h4);omega
    ·exact(oh hb0).2 (by rw[bz];exact h3)
   have e2:R%b=R-b*lo:=by rw[Nat.mod_def,e1]
   have hmb:R%b<b:=et _ hb0;rw[e1]at STEP;have MIN:=ue R (b*lo) aa h3;rw[<-e2]at MIN;have hlen:(q.set i lo).length=L:=by rw[fe];exact hq
   have hdig:=Dg.gE hdq (j:=i) (show lo<65536 by omega);have hms:=map_set q i lo;refine zs2 ?_;refine qF ?_;refine bK ?_;refine PB ?_;refine zs2 ?_;refine ck ?_;refine zs4 ?_;refine pJ ?_;(refine aL1 rfl rfl rfl (by(apply nX;(exact rfl);(focus((apply az;(conv=>lhs;whnf);(first|done|exact rfl))));(focus((apply az;(conv=>lhs;whnf);(first|done|exact rfl))));(exact rfl);(exact rfl);(focus((first|exact TIMES lo aa)));(exact rfl))) ?_);refine nA ?_;refine cS ?_;refine vY ?_;refine zs2 ?_;simp only[nx,inB];exact⟨i,_,by omega,(aE (sl':=[(0,dN (hd a)),(1,dN (hd b)),(6,.own 14),(7,dN (hd (R%b))),(8,zI ((i:Int)-1))]) (ow':=[(14,⟨3,1,(q.map hN).set i (hN lo)⟩)]) aO aS),q.set i lo,R%b,by omega,hlen,hdig,hmb,STEP,by rw[hms]⟩
  ·obtain⟨g,hg⟩:∃g,g=(lo+hi'+1)/2:=⟨_,rfl⟩;have hg1:lo<g:=by omega
   have hg2:g<=hi':=by omega
   have LESS:=LW R (b*g) aa (by have:=hprod g aa;omega);refine zs2 ?_;refine qF ?_;refine bs ?_;refine ck ?_;refine sY ?_;refine CW ?_;(refine aL1 rfl rfl rfl (by(first|(apply(MC (c:=2));(exact rfl);(focus((apply az;(conv=>lhs;whnf);(first|done|exact rfl))));(exact cj);(exact rfl);(exact rfl);(focus(apply sa;(try simp only[]);omega)))|(apply d_quoP;(exact rfl);(focus((apply az;(conv=>lhs;whnf);(first|done|exact rfl))));(exact cj);(omega))|(apply QE;(exact rfl);(focus((apply az;(conv=>lhs;whnf);(first|done|exact rfl))));(exact cj);(omega))|(apply Fy;(exact rfl);(focus((apply az;(conv=>lhs;whnf);(first|done|exact rfl))));(exact cj);(focus(first|omega|decide))))) ?_);refine cS ?_
   (refine av (aE (sl':=[(0,dN (hd a)),(1,dN (hd b)),(6,.own 14),(7,dN (hd R)),(8,zI (i:Nat)),(9,zI (lo:Nat)),(10,zI (hi':Nat)),(11,zI (g:Nat))]) (ow':=[(14,⟨3,1,q.map hN⟩)]) aO aS) ?_)
   by_cases hlt:R<b*g
   ·refine zs2 ?_;refine PA ?_;refine bs ?_;refine vY ?_;refine zs2 ?_;simp only[nx,inB];exact⟨g-1-lo,_,by omega,(aE (sl':=[(0,dN (hd a)),(1,dN (hd b)),(6,.own 14),(7,dN (hd R)),(8,zI (i:Nat)),(9,zI (lo:Nat)),(10,zI ((g-1:Nat):Int))]) (ow':=[(14,⟨3,1,q.map hN⟩)]) aO aS),lo,g-1,rfl,by omega,by omega,h3,by rw[show g-1+1=g by omega];exact hlt,rfl⟩
   ·refine zs2 ?_;refine PA ?_;refine bK ?_;refine lj ?_;refine zs2 ?_;simp only[nx,inB];exact⟨hi'-g,_,by omega,(aE (sl':=[(0,dN (hd a)),(1,dN (hd b)),(6,.own 14),(7,dN (hd R)),(8,zI (i:Nat)),(9,zI (g:Nat)),(10,zI (hi':Nat))]) (ow':=[(14,⟨3,1,q.map hN⟩)]) aO aS),g,hi',rfl,by omega,by omega,by omega,h4,rfl⟩
end DW
end
section
open Go.RowKit
namespace DW
theorem T8(a b:Nat):(hd (a*b)).length<=(hd a).length+(hd b).length:=by
 by_cases h0:b=0
 ·subst h0;rw[jE,(nj 0).2 rfl];omega
 apply ju;rw[ff];exact uX (qZ a) (bN (qZ b)) (eC aq)
theorem ET(a b:Nat):(hd (a+b)).length<=max (hd a).length (hd b).length+1:=by
 apply ju;rw[eD];have h1:(65536:Nat)^(hd a).length<=65536^max (hd a).length (hd b).length:=cv aq (Nat.le_max_left _ _);have h2:(65536:Nat)^(hd b).length<=65536^max (hd a).length (hd b).length:=cv aq (Nat.le_max_right _ _);have:=qZ a;have:=qZ b;omega
theorem jY(z:Int):Dg.iv (decide (z<0)) z.natAbs=z:=zT
theorem J7(n:Nat):Dg.iv false n=(n:Int):=rfl
set_option maxRecDepth 20000
set_option maxHeartbeats 1000000
theorem QM(u v:Int)(hu:Hf u)(hv:Hf v):Fn Tryz.prog 83 [.nm u,.nm v] (.nm (u+v)):=by
 have D1:=iD hu;have D2:=iD hv;unfold Hf at hu hv;have hp:=ET u.natAbs v.natAbs;refine bh Tryz.func83 ah rfl rfl rfl fun X0=>?_;simp only[aK];by_cases hs:decide (u<0)=decide (v<0)
 ·have hb:(decide (u<0)==decide (v<0))=true:=by rw[hs,beq_self_eq_true]
  have M:=lv (s:=decide (u<0)) (n:=u.natAbs+v.natAbs) (z:=u+v) aa (by
   rw[Dg.G9]
   conv=>lhs;rhs;rw[hs]
   rw[jY,jY])
  have PL:=GU u.natAbs v.natAbs aa aa;refine vQ ?_;refine IY ?_;refine zs2 ?_;refine Pz ?_;refine bs ?_;refine IU ?_;refine zs2 ?_;exact⟨_,ao (k:=4) aH aR aQ,.one (.cell 4 62) _ rfl (.cell 4 _ _ rfl rfl ah ah)⟩
 ·have hb:(decide (u<0)==decide (v<0))=false:=by rw[beq_eq_false_iff_ne];exact hs
  have LE:=LW u.natAbs v.natAbs aa aa;refine vQ ?_;refine IY ?_;refine zs2 ?_;refine Pz ?_;refine bK ?_;refine ck ?_;refine nA ?_;refine dX ?_;by_cases hl:u.natAbs<v.natAbs
  ·have MI:=ue v.natAbs u.natAbs aa aa;have hm:=kb (show v.natAbs-u.natAbs<=v.natAbs by omega);have M:=lv (s:=decide (v<0)) (n:=v.natAbs-u.natAbs) (z:=u+v) aa (by
    rw[Dg.zU hs aa,jY,jY])
   refine gY ?_;refine zs2 ?_;refine IU ?_;refine zs2 ?_;exact⟨_,ao (k:=4) aH aR aQ,.one (.cell 4 62) _ rfl (.cell 4 _ _ rfl rfl ah ah)⟩
  ·have MI:=ue u.natAbs v.natAbs aa aa;have hm:=kb (show u.natAbs-v.natAbs<=u.natAbs by omega);have M:=lv (s:=decide (u<0)) (n:=u.natAbs-v.natAbs) (z:=u+v) aa (by
    rw[Dg.zV hs aa,jY,jY])
   refine ib ?_;refine zs2 ?_;refine IU ?_;refine zs2 ?_;exact⟨_,ao (k:=4) aH aR aQ,.one (.cell 4 62) _ rfl (.cell 4 _ _ rfl rfl ah ah)⟩
theorem Qm(u v:Int)(hu:Hf u)(hv:Hf v):Fn Tryz.prog 187 [.nm u,.nm v] (.nm (u-v)):=by
 have N:=JT v hv;have A:=QM u (-v) hu hv.neg;rw[<-Dp]at A;refine bh Tryz.func187 ah rfl rfl rfl fun X0=>?_;simp only[aK];refine vQ ?_;((first|(apply aI 4;(focus kernel_rfl);(decide+kernel))|(apply aI 3;(focus kernel_rfl);(decide+kernel))|(apply aI 2;(focus kernel_rfl);(decide+kernel))|(apply aI 1;(focus kernel_rfl);(decide+kernel)));simp only[eH,dK,fj,dA]);refine gG ?_;refine Ir ?_;exact⟨_,ao (k:=4) aH aR aQ,.one (.cell 4 62) _ rfl (.cell 4 _ _ rfl rfl ah ah)⟩
theorem CG(u v:Int)(hu:Hf u)(hv:Hf v):Fn Tryz.prog 84 [.nm u,.nm v] (.nm (u*v)):=by
 have D1:=iD hu;have D2:=iD hv;unfold Hf at hu hv;have hp:=T8 u.natAbs v.natAbs;have T:=Dw (hd u.natAbs) (hd v.natAbs) (jV _) (jV _) aa aa;rw[jJ,jJ]at T;have M:=lv (s:=!(decide (u<0)==decide (v<0))) (n:=u.natAbs*v.natAbs) (z:=u*v) aa (by
  have:=Dg.EM (decide (u<0)) (decide (v<0)) u.natAbs v.natAbs;rw[jY,jY]at this;exact this)
 refine bh Tryz.func84 ah rfl rfl rfl fun X0=>?_;simp only[aK];refine vQ ?_;refine Ii ?_;refine Ay ?_;refine gG ?_;refine Ay ?_;refine gG ?_;refine zs57 ?_;refine gG ?_;refine CV ?_;refine gG ?_;refine CV ?_;refine pK ?_;refine pK ?_;refine zs39 ?_;refine kH ?_;refine zs2 ?_;exact⟨_,ao (k:=4) aH aR aQ,.one (.cell 4 62) _ rfl (.cell 4 _ _ rfl rfl ah ah)⟩
theorem Hf.sub'{u v:Int}(hu:(hd u.natAbs).length<=199999999)(hv:(hd v.natAbs).length<=199999999):Hf (u-v):=by
 unfold Hf;have h1:=ET u.natAbs v.natAbs;have h2:=kb (show(u-v).natAbs<=u.natAbs+v.natAbs by omega);omega
theorem Km(u v:Int)(hu:(hd u.natAbs).length<=199999999)(hv:(hd v.natAbs).length<=199999999):Fn Tryz.prog 147 [.nm u,.nm v] (zI (sgn (u-v))):=by
 have A:=Qm u v (by unfold Hf;omega) (by unfold Hf;omega);have B:=sq (u-v) (Hf.sub' hu hv);refine bh Tryz.func147 ah rfl rfl rfl fun X0=>?_;simp only[aK];refine vP ?_;refine vS ?_;refine jx ?_;refine cS ?_;exact⟨_,Sh.refl,.one (.tmp 4) _ rfl (.tmp 4 rfl)⟩
end DW
end
section
open Go.RowKit
namespace DW
theorem zW:hd 1=[1]:=by
 have:=Dg.Fv (b:=65536) (l:=[1]) aq ⟨fun x hx=>by rw[cr.1 hx];decide,by decide⟩;rw[KH]at this;exact this
set_option maxRecDepth 20000
set_option maxHeartbeats 1000000
theorem yd(u v:Int)(hu:Hf u)(hv:Hf v)(hv0:v≠0):Fn Tryz.prog 148 [.nm u,.nm v] (.tp [.nm (u/v),.nm (u%v),zI 0]):=by
 have D1:=iD hu;have D2:=iD hv;unfold Hf at hu hv;have hn0:0<v.natAbs:=by omega
 have hl0:(hd v.natAbs).length≠0:=fun e=>by have:=(nj _).1 e;omega
 have DV:=Ca u.natAbs v.natAbs aa aa hn0;have I:=Dg.L6 (s:=decide (u<0)) (t:=decide (v<0)) (m:=u.natAbs) (n:=v.natAbs) hn0;rw[jY,jY]at I;have hm:=kb (bN (et u.natAbs hn0));have hq:=kb (rA u.natAbs v.natAbs);have hr0:(hd (u.natAbs%v.natAbs)).length=0↔u.natAbs%v.natAbs=0:=nj _;refine bh Tryz.func148 ah rfl rfl rfl fun X0=>?_;simp only[aK];refine zs2 ?_;refine il ?_;refine tu ?_;refine Ig ?_;refine zs77 ?_;refine kp ?_;refine dX ?_;refine od ?_;refine zs2 ?_;refine IT ?_;refine bK ?_;refine mC ?_;refine zs4 ?_;refine nA ?_;refine oc ?_;refine zs6 ?_;refine cS ?_;by_cases hneg:u<0
 ·by_cases hr:u.natAbs%v.natAbs=0
  ·obtain⟨e1,e2⟩:=I.1 (.inr hr);have hr':=hr0.2 hr;have M1:=lv (s:=!(decide (u<0)==decide (v<0))) (n:=u.natAbs/v.natAbs) (z:=u/v) aa e1.symm;have M2:=lv (s:=false) (n:=u.natAbs%v.natAbs) (z:=u%v) aa (by rw[e2,J7]);have hd1:decide (u<0)=true:=aB hneg;refine zs2 ?_;refine IS ?_;refine bK ?_;refine IQ ?_;refine zs2 ?_;exact⟨_,(ao (k:=4) aH aR aQ).trans (ao (k:=5) aH aR aQ),.three (.cell 4 62) (.cell 5 62) (.tmp 6) _ _ _ rfl (.cell 4 _ _ rfl rfl ah ah) (.cell 5 _ _ rfl rfl ah ah) (.tmp 6 rfl)⟩
  ·obtain⟨e1,e2⟩:=I.2 (aB hneg) aa;have hr':(hd (u.natAbs%v.natAbs)).length≠0:=fun e=>hr (hr0.1 e);have hq2:=ET (u.natAbs/v.natAbs) 1;rw[zW,jR]at hq2;have PL:=GU (u.natAbs/v.natAbs) 1 aa (by rw[zW];simp);rw[zW]at PL;have MI:=ue v.natAbs (u.natAbs%v.natAbs) aa (bN (et _ hn0));have hm2:=kb (show v.natAbs-u.natAbs%v.natAbs<=v.natAbs by omega);have M1:=lv (s:=!(decide (u<0)==decide (v<0))) (n:=u.natAbs/v.natAbs+1) (z:=u/v) aa e1.symm;have M2:=lv (s:=false) (n:=v.natAbs-u.natAbs%v.natAbs) (z:=u%v) aa (by rw[e2,J7]);have hd1:decide (u<0)=true:=aB hneg;refine zs2 ?_;refine IS ?_;refine bs ?_;refine cF ?_;(refine aL1 rfl rfl rfl (by(apply QH;(exact rfl);(focus((first|exact op_zero|exact rfl)));(exact rfl);(focus((first|exact fq|exact fm|exact fo|exact wd_pt|exact rfl)));(kernel_rfl);(kernel_rfl);(exact rfl);(exact rfl))) ?_);refine nA ?_;refine zs4 ?_;refine zs4 ?_;refine nA ?_;refine zs6 ?_;refine cS ?_;refine IQ ?_;refine zs2 ?_;exact⟨_,(ao (k:=4) aH aR aQ).trans (ao (k:=5) aH aR aQ),.three (.cell 4 62) (.cell 5 62) (.tmp 6) _ _ _ rfl (.cell 4 _ _ rfl rfl ah ah) (.cell 5 _ _ rfl rfl ah ah) (.tmp 6 rfl)⟩
 ·have hd1:decide (u<0)=false:=aF hneg;obtain⟨e1,e2⟩:=I.1 (.inl hd1);have M1:=lv (s:=!(decide (u<0)==decide (v<0))) (n:=u.natAbs/v.natAbs) (z:=u/v) aa e1.symm;have M2:=lv (s:=false) (n:=u.natAbs%v.natAbs) (z:=u%v) aa (by rw[e2,J7]);refine zs2 ?_;refine IS ?_;refine bK ?_;refine IQ ?_;refine zs2 ?_;exact⟨_,(ao (k:=4) aH aR aQ).trans (ao (k:=5) aH aR aQ),.three (.cell 4 62) (.cell 5 62) (.tmp 6) _ _ _ rfl (.cell 4 _ _ rfl rfl ah ah) (.cell 5 _ _ rfl rfl ah ah) (.tmp 6 rfl)⟩
theorem CD(u v:Int)(hu:Hf u)(hv:Hf v)(hv0:v≠0):Fn Tryz.prog 123 [.nm u,.nm v] (.nm (u/v)):=by
 have D:=yd u v hu hv hv0;refine bh Tryz.func123 ah rfl rfl rfl fun X0=>?_;simp only[aK];refine vQ ?_;refine qE ?_;refine xg ?_;refine zs77 ?_;refine zs80 ?_;refine gZ ?_;refine gZ ?_;refine cS ?_;refine Co ?_;refine zs2 ?_;exact⟨_,ao (k:=4) aH aR aQ,.one (.cell 4 62) _ rfl (.cell 4 _ _ rfl rfl ah ah)⟩
theorem Qv(u v:Int)(hu:Hf u)(hv:Hf v):Fn Tryz.prog 122 [.nm u,.nm v] (.nm (Int.gcd u v:Int)):=by
 have D1:=iD hu;have D2:=iD hv;unfold Hf at hu hv;refine bh Tryz.func122 ah rfl rfl rfl fun X0=>?_;simp only[aK];refine vQ ?_;refine IY ?_;refine zs2 ?_
 (refine av (aE (sl':=[(4,.opt 4 0),(5,dN (hd u.natAbs)),(6,dN (hd v.natAbs))]) (ow':=[(4,⟨62,2,[.nm 0]⟩)]) aO aS) ?_)
 refine bB (fun r s=>∃a,Nat.gcd a r=Int.gcd u v/\(hd a).length<=200000000/\(hd r).length<=200000000/\s=⟨[(4,.opt 4 0),(5,dN (hd a)),(6,dN (hd r))],[(4,⟨62,2,[.nm 0]⟩)]⟩) (m:=v.natAbs) ⟨u.natAbs,rfl,hu,hv,rfl⟩ fun r s hs=>?_;obtain⟨a,h1,h2,h3,rfl⟩:=hs;by_cases hr:r=0
 ·have hl:(hd r).length=0:=(nj _).2 hr;subst hr;rw[Nat.gcd_zero_right]at h1;have M:=lv (s:=false) (n:=a) (z:=(Int.gcd u v:Int)) aa (by rw[J7,h1]);refine zs2 ?_;refine IM ?_;refine bK ?_;refine cF ?_;refine zs79 ?_;refine jz ?_;exact⟨_,ao (k:=4) aH aR aQ,.one (.cell 4 62) _ rfl (.cell 4 _ _ rfl rfl ah ah)⟩
 ·have hl:(hd r).length≠0:=fun e=>hr ((nj _).1 e);have DV:=Ca a r aa aa aa;have hlt:=et a (show 0<r by omega);have hm:=kb (bN hlt);have hg:Nat.gcd r (a%r)=Int.gcd u v:=by rw[<-h1,Nat.gcd_comm a r,Nat.gcd_rec r a,Nat.gcd_comm]
  refine zs2 ?_;refine IM ?_;refine bs ?_;refine ck ?_;refine nA ?_;refine oc ?_;refine zs6 ?_;refine cS ?_;refine ck ?_;refine zs6 ?_;refine cS ?_;simp only[nx,inB];exact⟨a%r,_,hlt,(aE (sl':=[(4,.opt 4 0),(5,dN (hd r)),(6,dN (hd (a%r)))]) (ow':=[(4,⟨62,2,[.nm 0]⟩)]) aO aS),r,hg,h3,by omega,rfl⟩
end DW
end
end Go.Proofs.YtcgjmdpcplhanaaGreat
