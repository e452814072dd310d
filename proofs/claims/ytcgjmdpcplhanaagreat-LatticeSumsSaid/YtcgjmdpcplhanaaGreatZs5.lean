/- Lemmas for the law: E7 E8 E9 -/
import Derived.Test.YtcgjmdpcplhanaaGreatZs4
namespace Go.Proofs.YtcgjmdpcplhanaaGreat
section
theorem xp{p q:Prop}(h:q)(f:Wq q->p:=by(intro hW;(refine cE ?_;refine cT ?_);exact hW.out)):p:=f ⟨h⟩
theorem ji{p q:Prop}(h:q)(f:Wq q->p:=by(intro hW;(refine xp ?_;refine zs2 ?_);exact hW.out)):p:=f ⟨h⟩
theorem kU{p q:Prop}(h:q)(f:Wq q->p:=by(intro hW;(refine aL1 rfl rfl rfl vN ?_);exact hW.out)):p:=f ⟨h⟩
theorem zs76{p q:Prop}(h:q)(f:Wq q->p:=by(intro hW;(refine aL1 rfl rfl rfl (by(apply mj;(exact rfl);(focus((apply aE;(conv=>lhs;whnf);(first|done|exact rfl))));(focus((apply aE;(conv=>lhs;whnf);(first|done|exact rfl))));(exact rfl);(exact rfl);(focus((first|exact TIMES g aa)));(exact rfl))) ?_);exact hW.out)):p:=f ⟨h⟩
theorem Rj{p q:Prop}(h:q)(f:Wq q->p:=by(intro hW;(refine bT ?_;refine zs4 ?_;refine my ?_;refine zs76 ?_;refine kU ?_;refine aQ ?_);exact hW.out)):p:=f ⟨h⟩
theorem zs77{p q:Prop}(h:q)(f:Wq q->p:=by(intro hW;((refine dT (k:=4) (z:=(.agg #[.bool false,.slice none 0 0])) (d:=(.nm 0)) rfl rfl rfl rfl rfl ah ai ai cX ai ai cj ?_));exact hW.out)):p:=f ⟨h⟩
theorem zs207{p q:Prop}(h:q)(f:Wq q->p:=by(intro hW;(refine iy ?_;refine uy ?_;refine zs77 ?_;refine aQ ?_);exact hW.out)):p:=f ⟨h⟩
theorem wZ{p q:Prop}(h:q)(f:Wq q->p:=by(intro hW;(refine zs2 ?_;refine zs207 ?_;refine zs2 ?_);exact hW.out)):p:=f ⟨h⟩
theorem zs79{p q:Prop}(h:q)(f:Wq q->p:=by(intro hW;((refine dT (k:=5) (z:=(.agg #[.bool false,.slice none 0 0])) (d:=(.nm 0)) rfl rfl rfl rfl rfl ah ai ai cX ai ai cj ?_));exact hW.out)):p:=f ⟨h⟩
theorem zs211{p q:Prop}(h:q)(f:Wq q->p:=by(intro hW;(refine iy ?_;refine uy ?_;refine jw ?_;refine aQ ?_);exact hW.out)):p:=f ⟨h⟩
theorem nN{p q:Prop}(h:q)(f:Wq q->p:=by(intro hW;(refine zs2 ?_;refine zs211 ?_;refine zs2 ?_);exact hW.out)):p:=f ⟨h⟩
theorem zs81{p q:Prop}(h:q)(f:Wq q->p:=by(intro hW;(refine aL1 rfl rfl rfl (by(apply mj;(exact rfl);(exact mc);(focus((apply aE;(conv=>lhs;whnf);(first|done|exact rfl))));(exact rfl);(exact rfl);(assumption);(exact rfl))) ?_);exact hW.out)):p:=f ⟨h⟩
theorem kZ{p q:Prop}(h:q)(f:Wq q->p:=by(intro hW;(refine jk ?_;refine cT ?_);exact hW.out)):p:=f ⟨h⟩
theorem xo{p q:Prop}(h:q)(f:Wq q->p:=by(intro hW;(refine cE ?_;refine zs5 ?_;refine zs7 ?_;refine aQ ?_);exact hW.out)):p:=f ⟨h⟩
theorem Es{p:Prop}(h:p:=by(apply GA;(exact rfl);(focus((apply aE;(conv=>lhs;whnf);(first|done|exact rfl))));(exact rfl))):p:=h
theorem yp{p q:Prop}(h:q)(f:Wq q->p:=by(intro hW;(refine aL1 rfl rfl rfl Es ?_);exact hW.out)):p:=f ⟨h⟩
theorem pX{p q:Prop}(h:q)(f:Wq q->p:=by(intro hW;(refine zs4 ?_;refine yp ?_;refine yp ?_);exact hW.out)):p:=f ⟨h⟩
theorem zs74{p q:Prop}(h:q)(f:Wq q->p:=by(intro hW;((refine pj (i:=i) rfl rfl rfl ck ck aX ai qz ai cX ai ah qA ?_));exact hW.out)):p:=f ⟨h⟩
theorem Rk{p q:Prop}(h:q)(f:Wq q->p:=by(intro hW;(refine bT ?_;refine zs4 ?_;refine Eh ?_;refine zs74 ?_;refine aQ ?_);exact hW.out)):p:=f ⟨h⟩
theorem JP{p q:Prop}(h:q)(f:Wq q->p:=by(intro hW;(refine nO ?_;refine gO ?_;refine Ei ?_;refine vJ ?_;refine nP ?_;refine aQ ?_);exact hW.out)):p:=f ⟨h⟩
theorem zs82{p q:Prop}(h:q)(f:Wq q->p:=by(intro hW;((refine dT (k:=6) (z:=(.agg #[.bool false,.slice none 0 0])) (d:=(.nm 0)) rfl rfl rfl rfl rfl ah ai ai cX ai ai cj ?_));exact hW.out)):p:=f ⟨h⟩
theorem JQ{p q:Prop}(h:q)(f:Wq q->p:=by(intro hW;(refine zs41 ?_;refine yr ?_;refine eJ ?_;refine ib ?_;refine ib ?_;refine oK ?_;refine xf ?_);exact hW.out)):p:=f ⟨h⟩
theorem zb14{p:Prop}(h:p:=by(first|(apply fm;(exact rfl);(focus((apply aE;(conv=>lhs;whnf);(first|done|exact rfl))));(focus((apply aE;(conv=>lhs;whnf);(first|done|exact rfl))));(exact rfl))|(apply SQ;(exact rfl);(focus((apply aE;(conv=>lhs;whnf);(first|done|exact rfl))));(focus((apply aE;(conv=>lhs;whnf);(first|done|exact rfl))));(kernel_rfl)))):p:=h
theorem Eg{p q:Prop}(h:q)(f:Wq q->p:=by(intro hW;(refine aL1 rfl rfl rfl zb14 ?_);exact hW.out)):p:=f ⟨h⟩
theorem Ri{p q:Prop}(h:q)(f:Wq q->p:=by(intro hW;(refine nO ?_;refine vK ?_;refine ff ?_;refine Eg ?_;refine aQ ?_);exact hW.out)):p:=f ⟨h⟩
theorem pY{p q:Prop}(h:q)(f:Wq q->p:=by(intro hW;(refine gar ?_;refine ff ?_;refine ff ?_;refine kU ?_;refine pX ?_);exact hW.out)):p:=f ⟨h⟩
theorem yq{p q:Prop}(h:q)(f:Wq q->p:=by(intro hW;(refine aL1 rfl rfl rfl zb0 ?_);exact hW.out)):p:=f ⟨h⟩
theorem JR{p q:Prop}(h:q)(f:Wq q->p:=by(intro hW;(refine zs36 ?_;refine eJ ?_;refine vL ?_;refine eJ ?_;refine vL ?_;refine El ?_;refine pn ?_);exact hW.out)):p:=f ⟨h⟩
theorem po{p q:Prop}(h:q)(f:Wq q->p:=by(intro hW;(refine bT ?_;refine pQ ?_;refine aQ ?_);exact hW.out)):p:=f ⟨h⟩
theorem JO{p q:Prop}(h:q)(f:Wq q->p:=by(intro hW;(refine nO ?_;refine vK ?_;refine ff ?_;refine Ej ?_;refine zs4 ?_;refine kU ?_;refine zs4 ?_;refine zs81 ?_;refine iE ?_;refine iE ?_;refine jw ?_;refine aQ ?_);exact hW.out)):p:=f ⟨h⟩
theorem zs72{p q:Prop}(h:q)(f:Wq q->p:=by(intro hW;(refine aL1 rfl rfl rfl zb3 ?_);exact hW.out)):p:=f ⟨h⟩
end
section
open Go.RowKit
namespace DW
theorem LL(b x:Nat):Dg.vl b [x]=x:=by simp[Dg.vl]
set_option maxRecDepth 20000
set_option maxHeartbeats 1000000
theorem C9(a b:Nat)(ha:(hd a).length<=300000000)(hb:(hd b).length<=300000000)(hb0:0<b):Fn Tryz.prog 168 [dN (hd a),dN (hd b)] (.tp [dN (hd (a/b)),dN (hd (a%b))]):=by
 refine bg Tryz.func168 ah rfl rfl rfl fun X0=>?_;simp only[aP];obtain⟨L,hL⟩:∃L,L=(hd a).length:=⟨_,rfl⟩;have hLc:((hd a).length:Int)=(L:Int):=by omega
 refine zs2 ?_;refine gar ?_;refine zs3 ?_;refine zs3 ?_;refine eX ?_;refine cE ?_;refine zs5 ?_;(refine G5 (k:=14) (T:=Tryz.prog.elem 40) (zv:=(.int .i64 0)) (d0:=(.sc (.int .i64 0))) (wd:=1) rfl rfl rfl rfl ck ck ah ah ai ai ai ai ai aa zb66 ai cj ?_);refine cn ?_;refine mT ?_;refine zs2 ?_;refine JT ?_;refine zs2 ?_
 (refine av (ye (t:=7) (wd:=1) fF) ?_)
 (refine av (ay (sl':=[(0,dN (hd a)),(1,dN (hd b)),(6,.own 14),(7,.ls 1 []),(8,zI ((hd a).length-1))]) (ow':=[(14,⟨3,1,List.replicate L (zI 0)⟩)]) aF aH) ?_)
 refine bh (fun r s=>∃q m,r<=L/\q.length=L/\Dg.dig 65536 q/\m<b/\Dg.vl 65536 ((hd a).drop r)=b*Dg.vl 65536 (q.drop r)+m/\s=⟨[(0,dN (hd a)),(1,dN (hd b)),(6,.own 14),(7,dN (hd m)),(8,zI (r-1))],[(14,⟨3,1,q.map hN⟩)]⟩) (m:=L) ⟨List.replicate L 0,0,af _,by simp,Dg.jc au _,hb0,by rw[mY aa,mY aU];simp[Dg.vl],by rw[EK,<-hL,show hd 0=[]from List.length_eq_zero_iff.1 ((oz 0).2 rfl)];rfl⟩ fun r s hs=>?_;obtain⟨q,m,hr,hq,hdq,hm,hv,rfl⟩:=hs;by_cases hr0:r=0
 ·subst hr0;rw[du,du,jY]at hv;have e1:a/b=Dg.vl 65536 q:=by rw[hv,Nat.mul_add_div hb0,Dy hm,bZ]
  have e2:a%b=m:=by rw[hv,Nat.mul_add_mod,px hm]
  have T:=Aj (l:=q) aa hdq e1.symm;clear hv;refine zs2 ?_;refine jn ?_;refine bR ?_;refine av (az (k:=14) aX bq bp) ?_;refine cE ?_;refine ll ?_;refine zs4 ?_;refine zs6 ?_;refine cn ?_;rw[e2];exact⟨_,Sh.refl,.two (.tmp 4) (.tmp 5) _ _ rfl (.tmp 4 rfl) (.tmp 5 rfl)⟩
 ·obtain⟨i,rfl⟩:∃i,r=i+1:=⟨r-1,by omega⟩;have hi:i<(hd a).length:=by omega
  have hiq:i<q.length:=by omega
  have STEP:=Dg.Au (B:=65536) (a:=hd a) (o:=q) (i:=i) (d:=b) (r:=m) hi hiq hv;clear hv;have hx:=qY hi;have hxl:(hd a).getD i 0<65536:=Dg.bS (kG a) au i;obtain⟨x,hxd⟩:∃x,x=(hd a).getD i 0:=⟨_,rfl⟩;rw[<-hxd]at hx hxl STEP;have hc:((i+1:Nat):Int)-1=(i:Int):=by omega
  have hml:(hd m).length<=(hd b).length:=jB aa;have T:=Aj (l:=x::hd m) (by simp only[iD];omega) (fun y hy=>by
   rcases bC.1 hy with rfl|h
   ·exact hxl
   ·exact kG m y h) (n:=m*65536+x) (by rw[Dg.gh,jY];omega)
  obtain⟨R,hR⟩:∃R,R=m*65536+x:=⟨_,rfl⟩;rw[<-hR]at T STEP;have hRb:R/b<65536:=by
   rw[uH hb0];have:=cF 65536 (show m+1<=b by omega);rw[bs 65536 b];omega
  have hRl:(hd R).length<=(hd b).length+1:=jH (by
   have h1:=sq b;rw[dQ];have h4:=cF 65536 (show m+1<=b by omega);have h5:=cF 65536 (bQ h1);omega)
  have TIMES:∀g:Nat,g<65536->Fn Tryz.prog 155 [dN (hd b),dN [g]] (dN (hd (b*g))):=fun g hg=>by
   have:=EV (hd b) [g] (kG b) (fun y hy=>by rw[bL.1 hy];exact hg) aa aU;rwa[jY,LL]at this
  have hprod:∀g,g<65536->(hd (b*g)).length<=(hd b).length+1:=fun g hg=>jH (by
   have h1:=sq b;rw[dQ];have h4:b*g<=b*65536:=bV b aa;have h5:=Nat.mul_lt_mul_of_pos_right h1 (show 0<65536 by decide);omega)
  have hml2:(hd m).length<=300000000:=by omega
  clear hml hxd;refine zs2 ?_;refine jn ?_;refine bA ?_;(refine gar ?_;refine zs4 ?_;refine zs4 ?_;refine zs72 ?_;refine yq ?_;(refine Wv (k:=26) (T:=Tryz.prog.elem 40) rfl rfl rfl rfl ck ai cX ai ah ah ai ai ai cj ?_);refine zs4 ?_;refine Bq ?_;refine S4 (az (k:=26) aX bq bp) ?_;refine ll ?_;refine zs6 ?_;refine aQ ?_);refine zs2 ?_;refine gar ?_;refine jw ?_;refine jw ?_;refine eX ?_
  (refine av (ay (sl':=[(0,dN (hd a)),(1,dN (hd b)),(6,.own 14),(7,dN (hd R)),(8,zI (i:Nat)),(9,zI ((0:Nat):Int)),(10,zI ((65535:Nat):Int))]) (ow':=[(14,⟨3,1,q.map hN⟩)]) aF aH) ?_)
  refine bh (fun r s=>∃lo hi,r=hi-lo/\lo<=hi/\hi<65536/\b*lo<=R/\R<b*(hi+1)/\s=⟨[(0,dN (hd a)),(1,dN (hd b)),(6,.own 14),(7,dN (hd R)),(8,zI (i:Nat)),(9,zI (lo:Nat)),(10,zI (hi:Nat))],[(14,⟨3,1,q.map hN⟩)]⟩) (m:=65535) ⟨0,65535,rfl,by omega,by omega,by omega,by
   rw[uH hb0]at hRb;rw[bs];exact hRb,rfl⟩ fun r s hs=>?_
  obtain⟨lo,hi',rfl,h1,h2,h3,h4,rfl⟩:=hs;by_cases hlh:lo=hi'
  ·subst hlh;have e1:R/b=lo:=by
    apply xD
    ·have:=(uH hb0).2 (by rw[bs];exact h4);omega
    ·exact(nU hb0).2 (by rw[bs];exact h3)
   have e2:R%b=R-b*lo:=by rw[Nat.mod_def,e1]
   have hmb:R%b<b:=eC _ hb0;rw[e1]at STEP;have MIN:=vj R (b*lo) aa h3;rw[<-e2]at MIN;have hlen:(q.set i lo).length=L:=by rw[fG];exact hq
   have hdig:=Dg.gT hdq (j:=i) (show lo<65536 by omega);have hms:=map_set q i lo;refine zs2 ?_;refine po ?_;refine bR ?_;refine Rk ?_;refine zs2 ?_;refine bT ?_;refine zs4 ?_;refine my ?_;(refine aL1 rfl rfl rfl (by(apply mj;(exact rfl);(focus((apply aE;(conv=>lhs;whnf);(first|done|exact rfl))));(focus((apply aE;(conv=>lhs;whnf);(first|done|exact rfl))));(exact rfl);(exact rfl);(focus((first|exact TIMES lo aa)));(exact rfl))) ?_);refine kU ?_;refine cn ?_;refine xr ?_;refine zs2 ?_;simp only[nx,inB];exact⟨i,_,by omega,(ay (sl':=[(0,dN (hd a)),(1,dN (hd b)),(6,.own 14),(7,dN (hd (R%b))),(8,zI ((i:Int)-1))]) (ow':=[(14,⟨3,1,(q.map hN).set i (hN lo)⟩)]) aF aH),q.set i lo,R%b,by omega,hlen,hdig,hmb,STEP,by rw[hms]⟩
  ·obtain⟨g,hg⟩:∃g,g=(lo+hi'+1)/2:=⟨_,rfl⟩;have hg1:lo<g:=by omega
   have hg2:g<=hi':=by omega
   have LESS:=Nj R (b*g) aa (by have:=hprod g aa;omega);refine zs2 ?_;refine po ?_;refine bA ?_;refine bT ?_;refine ur ?_;refine Ek ?_;(refine aL1 rfl rfl rfl (by(first|(apply(N8 (c:=2));(exact rfl);(focus((apply aE;(conv=>lhs;whnf);(first|done|exact rfl))));(exact cK);(exact rfl);(exact rfl);(focus(apply tF;(try simp only[]);omega)))|(apply d_quoP;(exact rfl);(focus((apply aE;(conv=>lhs;whnf);(first|done|exact rfl))));(exact cK);(omega))|(apply SJ;(exact rfl);(focus((apply aE;(conv=>lhs;whnf);(first|done|exact rfl))));(exact cK);(omega))|(apply GH;(exact rfl);(focus((apply aE;(conv=>lhs;whnf);(first|done|exact rfl))));(exact cK);(focus(first|omega|decide))))) ?_);refine cn ?_
   (refine av (ay (sl':=[(0,dN (hd a)),(1,dN (hd b)),(6,.own 14),(7,dN (hd R)),(8,zI (i:Nat)),(9,zI (lo:Nat)),(10,zI (hi':Nat)),(11,zI (g:Nat))]) (ow':=[(14,⟨3,1,q.map hN⟩)]) aF aH) ?_)
   by_cases hlt:R<b*g
   ·refine zs2 ?_;refine Rj ?_;refine bA ?_;refine xr ?_;refine zs2 ?_;simp only[nx,inB];exact⟨g-1-lo,_,by omega,(ay (sl':=[(0,dN (hd a)),(1,dN (hd b)),(6,.own 14),(7,dN (hd R)),(8,zI (i:Nat)),(9,zI (lo:Nat)),(10,zI ((g-1:Nat):Int))]) (ow':=[(14,⟨3,1,q.map hN⟩)]) aF aH),lo,g-1,rfl,by omega,by omega,h3,by rw[show g-1+1=g by omega];exact hlt,rfl⟩
   ·refine zs2 ?_;refine Rj ?_;refine bR ?_;refine ji ?_;simp only[nx,inB];exact⟨hi'-g,_,by omega,(ay (sl':=[(0,dN (hd a)),(1,dN (hd b)),(6,.own 14),(7,dN (hd R)),(8,zI (i:Nat)),(9,zI (g:Nat)),(10,zI (hi':Nat))]) (ow':=[(14,⟨3,1,q.map hN⟩)]) aF aH),g,hi',rfl,by omega,by omega,by omega,h4,rfl⟩
end DW
end
section
open Go.RowKit
namespace DW
theorem VX(a b:Nat):(hd (a*b)).length<=(hd a).length+(hd b).length:=by
 by_cases h0:b=0
 ·subst h0;rw[jR,(oz 0).2 rfl];omega
 apply jH;rw[eZ];exact wa (sq a) (bQ (sq b)) (ep au)
theorem Gg(a b:Nat):(hd (a+b)).length<=max (hd a).length (hd b).length+1:=by
 apply jH;rw[dQ];have h1:(65536:Nat)^(hd a).length<=65536^max (hd a).length (hd b).length:=bI au (Nat.le_max_left _ _);have h2:(65536:Nat)^(hd b).length<=65536^max (hd a).length (hd b).length:=bI au (Nat.le_max_right _ _);have:=sq a;have:=sq b;omega
theorem kN(z:Int):Dg.iv (decide (z<0)) z.natAbs=z:=A6
theorem KY(n:Nat):Dg.iv false n=(n:Int):=rfl
set_option maxRecDepth 20000
set_option maxHeartbeats 1000000
theorem SW(u v:Int)(hu:Hf u)(hv:Hf v):Fn Tryz.prog 83 [.nm u,.nm v] (.nm (u+v)):=by
 have D1:=iM hu;have D2:=iM hv;unfold Hf at hu hv;have hp:=Gg u.natAbs v.natAbs;refine bg Tryz.func83 ah rfl rfl rfl fun X0=>?_;simp only[aP];by_cases hs:decide (u<0)=decide (v<0)
 ·have hb:(decide (u<0)==decide (v<0))=true:=by rw[hs,beq_self_eq_true]
  have M:=mg (s:=decide (u<0)) (n:=u.natAbs+v.natAbs) (z:=u+v) aa (by
   rw[Dg.IK]
   conv=>lhs;rhs;rw[hs]
   rw[kN,kN])
  have PL:=Iq u.natAbs v.natAbs aa aa;refine wZ ?_;refine JR ?_;refine zs2 ?_;refine Ri ?_;refine bA ?_;refine JQ ?_;refine zs2 ?_;exact⟨_,az (k:=4) aX bq bp,.one (.cell 4 62) _ rfl (.cell 4 _ _ rfl rfl ah ah)⟩
 ·have hb:(decide (u<0)==decide (v<0))=false:=by rw[beq_eq_false_iff_ne];exact hs
  have LE:=Nj u.natAbs v.natAbs aa aa;refine wZ ?_;refine JR ?_;refine zs2 ?_;refine Ri ?_;refine bR ?_;refine bT ?_;refine kU ?_;refine eX ?_;by_cases hl:u.natAbs<v.natAbs
  ·have MI:=vj v.natAbs u.natAbs aa aa;have hm:=jB (show v.natAbs-u.natAbs<=v.natAbs by omega);have M:=mg (s:=decide (v<0)) (n:=v.natAbs-u.natAbs) (z:=u+v) aa (by
    rw[Dg.A7 hs aa,kN,kN])
   refine fe ?_;refine zs2 ?_;refine JQ ?_;refine zs2 ?_;exact⟨_,az (k:=4) aX bq bp,.one (.cell 4 62) _ rfl (.cell 4 _ _ rfl rfl ah ah)⟩
  ·have MI:=vj u.natAbs v.natAbs aa aa;have hm:=jB (show u.natAbs-v.natAbs<=u.natAbs by omega);have M:=mg (s:=decide (u<0)) (n:=u.natAbs-v.natAbs) (z:=u+v) aa (by
    rw[Dg.A8 hs aa,kN,kN])
   refine fD ?_;refine zs2 ?_;refine JQ ?_;refine zs2 ?_;exact⟨_,az (k:=4) aX bq bp,.one (.cell 4 62) _ rfl (.cell 4 _ _ rfl rfl ah ah)⟩
theorem Sf(u v:Int)(hu:Hf u)(hv:Hf v):Fn Tryz.prog 187 [.nm u,.nm v] (.nm (u-v)):=by
 have N:=So v hv;have A:=SW u (-v) hu hv.neg;rw[<-EM]at A;refine bg Tryz.func187 ah rfl rfl rfl fun X0=>?_;simp only[aP];refine wZ ?_;((first|(apply aI 4;(focus kernel_rfl);(decide+kernel))|(apply aI 3;(focus kernel_rfl);(decide+kernel))|(apply aI 2;(focus kernel_rfl);(decide+kernel))|(apply aI 1;(focus kernel_rfl);(decide+kernel)));simp only[eu,dw,eU,du]);refine eJ ?_;refine eJ ?_;refine vL ?_;refine xf ?_;refine zs2 ?_;exact⟨_,az (k:=4) aX bq bp,.one (.cell 4 62) _ rfl (.cell 4 _ _ rfl rfl ah ah)⟩
theorem DZ(u v:Int)(hu:Hf u)(hv:Hf v):Fn Tryz.prog 84 [.nm u,.nm v] (.nm (u*v)):=by
 have D1:=iM hu;have D2:=iM hv;unfold Hf at hu hv;have hp:=VX u.natAbs v.natAbs;have T:=EV (hd u.natAbs) (hd v.natAbs) (kG _) (kG _) aa aa;rw[jY,jY]at T;have M:=mg (s:=!(decide (u<0)==decide (v<0))) (n:=u.natAbs*v.natAbs) (z:=u*v) aa (by
  have:=Dg.Gb (decide (u<0)) (decide (v<0)) u.natAbs v.natAbs;rw[kN,kN]at this;exact this)
 refine bg Tryz.func84 ah rfl rfl rfl fun X0=>?_;simp only[aP];refine wZ ?_;refine Jy ?_;refine yr ?_;refine eJ ?_;refine yr ?_;refine eJ ?_;refine Jz ?_;refine eJ ?_;refine vL ?_;refine eJ ?_;refine vL ?_;refine oK ?_;refine xf ?_;refine zs2 ?_;exact⟨_,az (k:=4) aX bq bp,.one (.cell 4 62) _ rfl (.cell 4 _ _ rfl rfl ah ah)⟩
theorem Hf.sub'{u v:Int}(hu:(hd u.natAbs).length<=199999999)(hv:(hd v.natAbs).length<=199999999):Hf (u-v):=by
 unfold Hf;have h1:=Gg u.natAbs v.natAbs;have h2:=jB (show(u-v).natAbs<=u.natAbs+v.natAbs by omega);omega
theorem Li(u v:Int)(hu:(hd u.natAbs).length<=199999999)(hv:(hd v.natAbs).length<=199999999):Fn Tryz.prog 147 [.nm u,.nm v] (zI (sgn (u-v))):=by
 have A:=Sf u v (by unfold Hf;omega) (by unfold Hf;omega);have B:=tM (u-v) (Hf.sub' hu hv);refine bg Tryz.func147 ah rfl rfl rfl fun X0=>?_;simp only[aP];refine nN ?_;refine gar ?_;refine ff ?_;refine ff ?_;refine kU ?_;refine ll ?_;refine cn ?_;exact⟨_,Sh.refl,.one (.tmp 4) _ rfl (.tmp 4 rfl)⟩
end DW
end
section
open Go.RowKit
namespace DW
theorem A9:hd 1=[1]:=by
 have:=Dg.GF (b:=65536) (l:=[1]) au ⟨fun x hx=>by rw[bL.1 hx];decide,by decide⟩;rw[LL]at this;exact this
set_option maxRecDepth 20000
set_option maxHeartbeats 1000000
theorem zh(u v:Int)(hu:Hf u)(hv:Hf v)(hv0:v≠0):Fn Tryz.prog 148 [.nm u,.nm v] (.tp [.nm (u/v),.nm (u%v),zI 0]):=by
 have D1:=iM hu;have D2:=iM hv;unfold Hf at hu hv;have hn0:0<v.natAbs:=by omega
 have hl0:(hd v.natAbs).length≠0:=fun e=>by have:=(oz _).1 e;omega
 have DV:=C9 u.natAbs v.natAbs aa aa hn0;have I:=Dg.Ns (s:=decide (u<0)) (t:=decide (v<0)) (m:=u.natAbs) (n:=v.natAbs) hn0;rw[kN,kN]at I;have hm:=jB (bQ (eC u.natAbs hn0));have hq:=jB (sM u.natAbs v.natAbs);have hr0:(hd (u.natAbs%v.natAbs)).length=0↔u.natAbs%v.natAbs=0:=oz _;refine bg Tryz.func148 ah rfl rfl rfl fun X0=>?_;simp only[aP];refine zs2 ?_;refine iy ?_;refine uy ?_;refine zs77 ?_;refine zs79 ?_;refine jw ?_;refine eX ?_;refine kZ ?_;refine kX ?_;refine zs5 ?_;refine Br ?_;refine aQ ?_;refine bR ?_;refine jk ?_;refine zs4 ?_;refine kU ?_;refine pX ?_;refine zs6 ?_;refine cn ?_;by_cases hneg:u<0
 ·by_cases hr:u.natAbs%v.natAbs=0
  ·obtain⟨e1,e2⟩:=I.1 (.inr hr);have hr':=hr0.2 hr;have M1:=mg (s:=!(decide (u<0)==decide (v<0))) (n:=u.natAbs/v.natAbs) (z:=u/v) aa e1.symm;have M2:=mg (s:=false) (n:=u.natAbs%v.natAbs) (z:=u%v) aa (by rw[e2,KY]);have hd1:decide (u<0)=true:=aD hneg;refine zs2 ?_;refine JP ?_;refine bR ?_;refine JO ?_;refine zs2 ?_;exact⟨_,(az (k:=4) aX bq bp).trans (az (k:=5) aX bq bp),.three (.cell 4 62) (.cell 5 62) (.tmp 6) _ _ _ rfl (.cell 4 _ _ rfl rfl ah ah) (.cell 5 _ _ rfl rfl ah ah) (.tmp 6 rfl)⟩
  ·obtain⟨e1,e2⟩:=I.2 (aD hneg) aa;have hr':(hd (u.natAbs%v.natAbs)).length≠0:=fun e=>hr (hr0.1 e);have hq2:=Gg (u.natAbs/v.natAbs) 1;rw[A9,kv]at hq2;have PL:=Iq (u.natAbs/v.natAbs) 1 aa (by rw[A9];simp);rw[A9]at PL;have MI:=vj v.natAbs (u.natAbs%v.natAbs) aa (bQ (eC _ hn0));have hm2:=jB (show v.natAbs-u.natAbs%v.natAbs<=v.natAbs by omega);have M1:=mg (s:=!(decide (u<0)==decide (v<0))) (n:=u.natAbs/v.natAbs+1) (z:=u/v) aa e1.symm;have M2:=mg (s:=false) (n:=v.natAbs-u.natAbs%v.natAbs) (z:=u%v) aa (by rw[e2,KY]);have hd1:decide (u<0)=true:=aD hneg;refine zs2 ?_;refine JP ?_;refine bA ?_;refine cE ?_;(refine aL1 rfl rfl rfl (by(apply SO;(exact rfl);(focus((first|exact op_zero|exact rfl)));(exact rfl);(focus((first|exact fN|exact fL|exact fM|exact wd_pt|exact rfl)));(kernel_rfl);(kernel_rfl);(exact rfl);(exact rfl))) ?_);refine kU ?_;refine zs4 ?_;refine zs4 ?_;refine kU ?_;refine zs6 ?_;refine cn ?_;refine JO ?_;refine zs2 ?_;exact⟨_,(az (k:=4) aX bq bp).trans (az (k:=5) aX bq bp),.three (.cell 4 62) (.cell 5 62) (.tmp 6) _ _ _ rfl (.cell 4 _ _ rfl rfl ah ah) (.cell 5 _ _ rfl rfl ah ah) (.tmp 6 rfl)⟩
 ·have hd1:decide (u<0)=false:=aG hneg;obtain⟨e1,e2⟩:=I.1 (.inl hd1);have M1:=mg (s:=!(decide (u<0)==decide (v<0))) (n:=u.natAbs/v.natAbs) (z:=u/v) aa e1.symm;have M2:=mg (s:=false) (n:=u.natAbs%v.natAbs) (z:=u%v) aa (by rw[e2,KY]);refine zs2 ?_;refine JP ?_;refine bR ?_;refine JO ?_;refine zs2 ?_;exact⟨_,(az (k:=4) aX bq bp).trans (az (k:=5) aX bq bp),.three (.cell 4 62) (.cell 5 62) (.tmp 6) _ _ _ rfl (.cell 4 _ _ rfl rfl ah ah) (.cell 5 _ _ rfl rfl ah ah) (.tmp 6 rfl)⟩
theorem Sl(u v:Int)(hu:Hf u)(hv:Hf v)(hv0:v≠0):Fn Tryz.prog 123 [.nm u,.nm v] (.nm (u/v)):=by
 have D:=zh u v hu hv hv0;refine bg Tryz.func123 ah rfl rfl rfl fun X0=>?_;simp only[aP];refine wZ ?_;refine pY ?_;refine yp ?_;refine zs79 ?_;refine zs82 ?_;refine iE ?_;refine iE ?_;refine cn ?_;refine gar ?_;refine ff ?_;refine jj ?_;exact⟨_,az (k:=4) aX bq bp,.one (.cell 4 62) _ rfl (.cell 4 _ _ rfl rfl ah ah)⟩
theorem gcd_d(u v:Int)(hu:Hf u)(hv:Hf v):Fn Tryz.prog 122 [.nm u,.nm v] (.nm (Int.gcd u v:Int)):=by
 have D1:=iM hu;have D2:=iM hv;unfold Hf at hu hv;refine bg Tryz.func122 ah rfl rfl rfl fun X0=>?_;simp only[aP];refine wZ ?_;refine JR ?_;refine zs2 ?_
 (refine av (ay (sl':=[(4,.opt 4 0),(5,dN (hd u.natAbs)),(6,dN (hd v.natAbs))]) (ow':=[(4,⟨62,2,[.nm 0]⟩)]) aF aH) ?_)
 refine bh (fun r s=>∃a,Nat.gcd a r=Int.gcd u v/\(hd a).length<=200000000/\(hd r).length<=200000000/\s=⟨[(4,.opt 4 0),(5,dN (hd a)),(6,dN (hd r))],[(4,⟨62,2,[.nm 0]⟩)]⟩) (m:=v.natAbs) ⟨u.natAbs,rfl,hu,hv,rfl⟩ fun r s hs=>?_;obtain⟨a,h1,h2,h3,rfl⟩:=hs;by_cases hr:r=0
 ·have hl:(hd r).length=0:=(oz _).2 hr;subst hr;rw[Nat.gcd_zero_right]at h1;have M:=mg (s:=false) (n:=a) (z:=(Int.gcd u v:Int)) aa (by rw[KY,h1]);refine zs2 ?_;refine xo ?_;refine bR ?_;refine cE ?_;refine zs81 ?_;refine jj ?_;exact⟨_,az (k:=4) aX bq bp,.one (.cell 4 62) _ rfl (.cell 4 _ _ rfl rfl ah ah)⟩
 ·have hl:(hd r).length≠0:=fun e=>hr ((oz _).1 e);have DV:=C9 a r aa aa aa;have hlt:=eC a (show 0<r by omega);have hm:=jB (bQ hlt);have hg:Nat.gcd r (a%r)=Int.gcd u v:=by rw[<-h1,Nat.gcd_comm a r,Nat.gcd_rec r a,Nat.gcd_comm]
  refine zs2 ?_;refine xo ?_;refine bA ?_;refine bT ?_;refine kU ?_;refine pX ?_;refine zs6 ?_;refine cn ?_;refine bT ?_;refine zs6 ?_;refine cn ?_;simp only[nx,inB];exact⟨a%r,_,hlt,(ay (sl':=[(4,.opt 4 0),(5,dN (hd r)),(6,dN (hd (a%r)))]) (ow':=[(4,⟨62,2,[.nm 0]⟩)]) aF aH),r,hg,h3,by omega,rfl⟩
end DW
end
end Go.Proofs.YtcgjmdpcplhanaaGreat
