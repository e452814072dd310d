/- Lemmas for the law: E7 E8 E9 -/
import Derived.Test.YtcgjmdpcplhanaaGreatZd4
namespace Go.Proofs.YtcgjmdpcplhanaaGreat
section
theorem zs78{p q:Prop}(h:q)(f:Wq q->p:=by(intro hW;((refine ez (k:=5) (z:=(.agg #[.bool false,.slice none 0 0])) (d:=(.nm 0)) rfl rfl rfl rfl rfl ai aj aj dT aj aj cu ?_));exact hW.out)):p:=f ⟨h⟩
theorem JE{p q:Prop}(h:q)(f:Wq q->p:=by(intro hW;(refine zs35 ?_;refine fR ?_;refine sd ?_;refine fR ?_;refine sd ?_;refine tI ?_;refine tI ?_;refine jg ?_);exact hW.out)):p:=f ⟨h⟩
theorem I6{p q:Prop}(h:q)(f:Wq q->p:=by(intro hW;(refine aL1 rfl rfl rfl zb3 ?_);exact hW.out)):p:=f ⟨h⟩
theorem zb46{p:Prop}(h:p:=by(apply Gh;(exact rfl);(focus((apply aE;(conv=>lhs;whnf);(first|done|exact rfl))));(exact rfl))):p:=h
theorem ye{p q:Prop}(h:q)(f:Wq q->p:=by(intro hW;(refine aL1 rfl rfl rfl zb46 ?_);exact hW.out)):p:=f ⟨h⟩
theorem jV{p q:Prop}(h:q)(f:Wq q->p:=by(intro hW;(refine aL1 rfl rfl rfl vd ?_);exact hW.out)):p:=f ⟨h⟩
theorem ox{p q:Prop}(h:q)(f:Wq q->p:=by(intro hW;(refine cO ?_;refine mJ ?_;refine aX ?_);exact hW.out)):p:=f ⟨h⟩
theorem zs80{p q:Prop}(h:q)(f:Wq q->p:=by(intro hW;(refine aL1 rfl rfl rfl (by(apply oe;(exact rfl);(exact lj);(focus((apply aE;(conv=>lhs;whnf);(first|done|exact rfl))));(exact rfl);(exact rfl);(assumption);(exact rfl))) ?_);exact hW.out)):p:=f ⟨h⟩
theorem JB{p q:Prop}(h:q)(f:Wq q->p:=by(intro hW;(refine pA ?_;refine yh ?_;refine ir ?_;refine Ja ?_;refine zs4 ?_;refine jV ?_;refine zs4 ?_;refine zs80 ?_;refine lT ?_;refine lT ?_;refine lu ?_;refine aX ?_);exact hW.out)):p:=f ⟨h⟩
theorem zb14{p:Prop}(h:p:=by(first|(apply eI;(exact rfl);(focus((apply aE;(conv=>lhs;whnf);(first|done|exact rfl))));(focus((apply aE;(conv=>lhs;whnf);(first|done|exact rfl))));(exact rfl))|(apply R8;(exact rfl);(focus((apply aE;(conv=>lhs;whnf);(first|done|exact rfl))));(focus((apply aE;(conv=>lhs;whnf);(first|done|exact rfl))));(kernel_rfl)))):p:=h
theorem yf{p q:Prop}(h:q)(f:Wq q->p:=by(intro hW;(refine aL1 rfl rfl rfl zb14 ?_);exact hW.out)):p:=f ⟨h⟩
theorem QN{p q:Prop}(h:q)(f:Wq q->p:=by(intro hW;(refine pA ?_;refine yh ?_;refine ir ?_;refine yf ?_;refine aX ?_);exact hW.out)):p:=f ⟨h⟩
theorem tK{p q:Prop}(h:q)(f:Wq q->p:=by(intro hW;(refine cn ?_;refine cK ?_);exact hW.out)):p:=f ⟨h⟩
theorem kb{p q:Prop}(h:q)(f:Wq q->p:=by(intro hW;(refine tK ?_;refine zs2 ?_);exact hW.out)):p:=f ⟨h⟩
theorem zs76{p q:Prop}(h:q)(f:Wq q->p:=by(intro hW;((refine ez (k:=4) (z:=(.agg #[.bool false,.slice none 0 0])) (d:=(.nm 0)) rfl rfl rfl rfl rfl ai aj aj dT aj aj cu ?_));exact hW.out)):p:=f ⟨h⟩
theorem zs205{p q:Prop}(h:q)(f:Wq q->p:=by(intro hW;(refine jw ?_;refine Dw ?_;refine zs76 ?_;refine aX ?_);exact hW.out)):p:=f ⟨h⟩
theorem wC{p q:Prop}(h:q)(f:Wq q->p:=by(intro hW;(refine zs2 ?_;refine zs205 ?_;refine zs2 ?_);exact hW.out)):p:=f ⟨h⟩
theorem yU{p q:Prop}(h:q)(f:Wq q->p:=by(intro hW;(refine jv ?_;refine tF ?_;refine aX ?_);exact hW.out)):p:=f ⟨h⟩
theorem wK{p q:Prop}(h:q)(f:Wq q->p:=by(intro hW;(refine kW ?_;refine cK ?_);exact hW.out)):p:=f ⟨h⟩
theorem kX{p q:Prop}(h:q)(f:Wq q->p:=by(intro hW;(refine zs4 ?_;refine ye ?_;refine ye ?_);exact hW.out)):p:=f ⟨h⟩
theorem uX{p q:Prop}(h:q)(f:Wq q->p:=by(intro hW;(refine aL1 rfl rfl rfl zb0 ?_);exact hW.out)):p:=f ⟨h⟩
theorem zs73{p q:Prop}(h:q)(f:Wq q->p:=by(intro hW;((refine qe (i:=i) rfl rfl rfl cD cD bf aj sf aj dT aj ai qf ?_));exact hW.out)):p:=f ⟨h⟩
theorem QP{p q:Prop}(h:q)(f:Wq q->p:=by(intro hW;(refine lL ?_;refine I7 ?_;refine zs73 ?_;refine aX ?_);exact hW.out)):p:=f ⟨h⟩
theorem JD{p q:Prop}(h:q)(f:Wq q->p:=by(intro hW;(refine zs40 ?_;refine uY ?_;refine fR ?_;refine eV ?_;refine eV ?_;refine tG ?_;refine wE ?_);exact hW.out)):p:=f ⟨h⟩
theorem zs75{p q:Prop}(h:q)(f:Wq q->p:=by(intro hW;(refine aL1 rfl rfl rfl (by(apply oe;(exact rfl);(focus((apply aE;(conv=>lhs;whnf);(first|done|exact rfl))));(focus((apply aE;(conv=>lhs;whnf);(first|done|exact rfl))));(exact rfl);(exact rfl);(focus((first|exact TIMES g aa)));(exact rfl))) ?_);exact hW.out)):p:=f ⟨h⟩
theorem QO{p q:Prop}(h:q)(f:Wq q->p:=by(intro hW;(refine lL ?_;refine ph ?_;refine zs75 ?_;refine jV ?_;refine aX ?_);exact hW.out)):p:=f ⟨h⟩
theorem JC{p q:Prop}(h:q)(f:Wq q->p:=by(intro hW;(refine pA ?_;refine fM ?_;refine sb ?_;refine pg ?_;refine kv ?_;refine aX ?_);exact hW.out)):p:=f ⟨h⟩
end
section
open Go.RowKit
namespace DW
theorem LF(b x:Nat):Dg.vl b [x]=x:=by simp[Dg.vl]
set_option maxRecDepth 20000
set_option maxHeartbeats 1000000
theorem Cz(a b:Nat)(ha:(hd a).length<=300000000)(hb:(hd b).length<=300000000)(hb0:0<b):Fn Tryz.prog 168 [dN (hd a),dN (hd b)] (.tp [dN (hd (a/b)),dN (hd (a%b))]):=by
 refine ba Tryz.func168 ai rfl rfl rfl fun X0=>?_;simp only[aO];obtain⟨L,hL⟩:∃L,L=(hd a).length:=⟨_,rfl⟩;have hLc:((hd a).length:Int)=(L:Int):=by omega
 refine zs2 ?_;refine gar ?_;refine zs3 ?_;refine zs3 ?_;refine ig ?_;refine jv ?_;(refine AF (k:=14) (T:=Tryz.prog.elem 40) (zv:=(.int .i64 0)) (d0:=(.sc (.int .i64 0))) (wd:=1) rfl rfl rfl rfl cD cD ai ai aj aj aj aj aj aa J1 aj cu ?_);refine cT ?_;refine C3 ?_;refine zs2 ?_;refine JG ?_;refine zs2 ?_
 (refine ay (Lj (t:=7) (wd:=1) fq) ?_)
 (refine ay (aq (sl':=[(0,dN (hd a)),(1,dN (hd b)),(6,.own 14),(7,.ls 1 []),(8,zI ((hd a).length-1))]) (ow':=[(14,⟨3,1,List.replicate L (zI 0)⟩)]) az aD) ?_)
 refine bc (fun r s=>∃q m,r<=L/\q.length=L/\Dg.dig 65536 q/\m<b/\Dg.vl 65536 ((hd a).drop r)=b*Dg.vl 65536 (q.drop r)+m/\s=⟨[(0,dN (hd a)),(1,dN (hd b)),(6,.own 14),(7,dN (hd m)),(8,zI (r-1))],[(14,⟨3,1,q.map hN⟩)]⟩) (m:=L) ⟨List.replicate L 0,0,af _,by simp,Dg.iS av _,hb0,by rw[lM aa,lM aK];simp[Dg.vl],by rw[En,<-hL,show hd 0=[]from List.length_eq_zero_iff.1 ((nk 0).2 rfl)];rfl⟩ fun r s hs=>?_;obtain⟨q,m,hr,hq,hdq,hm,hv,rfl⟩:=hs;by_cases hr0:r=0
 ·subst hr0;rw[cY,cY,jF]at hv;have e1:a/b=Dg.vl 65536 q:=by rw[hv,Nat.mul_add_div hb0,Db hm,cg]
  have e2:a%b=m:=by rw[hv,Nat.mul_add_mod,oE hm]
  have T:=zA (l:=q) aa hdq e1.symm;clear hv;refine zs2 ?_;refine ja ?_;refine bp ?_;refine ay (aA (k:=14) bf bA bz) ?_;refine cn ?_;refine iq ?_;refine zs4 ?_;refine zs6 ?_;refine cT ?_;rw[e2];exact⟨_,Sh.refl,.two (.tmp 4) (.tmp 5) _ _ rfl (.tmp 4 rfl) (.tmp 5 rfl)⟩
 ·obtain⟨i,rfl⟩:∃i,r=i+1:=⟨r-1,by omega⟩;have hi:i<(hd a).length:=by omega
  have hiq:i<q.length:=by omega
  have STEP:=Dg.zH (B:=65536) (a:=hd a) (o:=q) (i:=i) (d:=b) (r:=m) hi hiq hv;clear hv;have hx:=qA hi;have hxl:(hd a).getD i 0<65536:=Dg.bR (jN a) av i;obtain⟨x,hxd⟩:∃x,x=(hd a).getD i 0:=⟨_,rfl⟩;rw[<-hxd]at hx hxl STEP;have hc:((i+1:Nat):Int)-1=(i:Int):=by omega
  have hml:(hd m).length<=(hd b).length:=jR aa;have T:=zA (l:=x::hd m) (by simp only[im];omega) (fun y hy=>by
   rcases bP.1 hy with rfl|h
   ·exact hxl
   ·exact jN m y h) (n:=m*65536+x) (by rw[Dg.fH,jF];omega)
  obtain⟨R,hR⟩:∃R,R=m*65536+x:=⟨_,rfl⟩;rw[<-hR]at T STEP;have hRb:R/b<65536:=by
   rw[tS hb0];have:=cZ 65536 (show m+1<=b by omega);rw[bG 65536 b];omega
  have hRl:(hd R).length<=(hd b).length+1:=jt (by
   have h1:=rP b;rw[ei];have h4:=cZ 65536 (show m+1<=b by omega);have h5:=cZ 65536 (bO h1);omega)
  have TIMES:∀g:Nat,g<65536->Fn Tryz.prog 155 [dN (hd b),dN [g]] (dN (hd (b*g))):=fun g hg=>by
   have:=Ey (hd b) [g] (jN b) (fun y hy=>by rw[bU.1 hy];exact hg) aa aK;rwa[jF,LF]at this
  have hprod:∀g,g<65536->(hd (b*g)).length<=(hd b).length+1:=fun g hg=>jt (by
   have h1:=rP b;rw[ei];have h4:b*g<=b*65536:=dR b aa;have h5:=Nat.mul_lt_mul_of_pos_right h1 (show 0<65536 by decide);omega)
  have hml2:(hd m).length<=300000000:=by omega
  clear hml hxd;refine zs2 ?_;refine ja ?_;refine bw ?_;(refine gar ?_;refine zs4 ?_;refine zs4 ?_;refine I6 ?_;refine uX ?_;(refine VD (k:=26) (T:=Tryz.prog.elem 40) rfl rfl rfl rfl cD aj dT aj ai ai aj aj aj cu ?_);refine zs4 ?_;refine AX ?_;refine Le (aA (k:=26) bf bA bz) ?_;refine iq ?_;refine zs6 ?_;refine aX ?_);refine zs2 ?_;refine gar ?_;refine lu ?_;refine lu ?_;refine ig ?_
  (refine ay (aq (sl':=[(0,dN (hd a)),(1,dN (hd b)),(6,.own 14),(7,dN (hd R)),(8,zI (i:Nat)),(9,zI ((0:Nat):Int)),(10,zI ((65535:Nat):Int))]) (ow':=[(14,⟨3,1,q.map hN⟩)]) az aD) ?_)
  refine bc (fun r s=>∃lo hi,r=hi-lo/\lo<=hi/\hi<65536/\b*lo<=R/\R<b*(hi+1)/\s=⟨[(0,dN (hd a)),(1,dN (hd b)),(6,.own 14),(7,dN (hd R)),(8,zI (i:Nat)),(9,zI (lo:Nat)),(10,zI (hi:Nat))],[(14,⟨3,1,q.map hN⟩)]⟩) (m:=65535) ⟨0,65535,rfl,by omega,by omega,by omega,by
   rw[tS hb0]at hRb;rw[bG];exact hRb,rfl⟩ fun r s hs=>?_
  obtain⟨lo,hi',rfl,h1,h2,h3,h4,rfl⟩:=hs;by_cases hlh:lo=hi'
  ·subst hlh;have e1:R/b=lo:=by
    apply wX
    ·have:=(tS hb0).2 (by rw[bG];exact h4);omega
    ·exact(tT hb0).2 (by rw[bG];exact h3)
   have e2:R%b=R-b*lo:=by rw[Nat.mod_def,e1]
   have hmb:R%b<b:=eu _ hb0;rw[e1]at STEP;have MIN:=ux R (b*lo) aa h3;rw[<-e2]at MIN;have hlen:(q.set i lo).length=L:=by rw[ed];exact hq
   have hdig:=Dg.fX hdq (j:=i) (show lo<65536 by omega);have hms:=map_set q i lo;refine zs2 ?_;refine ox ?_;refine bp ?_;refine QP ?_;refine zs2 ?_;refine lL ?_;refine ph ?_;(refine aL1 rfl rfl rfl (by(apply oe;(exact rfl);(focus((apply aE;(conv=>lhs;whnf);(first|done|exact rfl))));(focus((apply aE;(conv=>lhs;whnf);(first|done|exact rfl))));(exact rfl);(exact rfl);(focus((first|exact TIMES lo aa)));(exact rfl))) ?_);refine jV ?_;refine cT ?_;refine wM ?_;refine zs2 ?_;simp only[nx,inB];exact⟨i,_,by omega,(aq (sl':=[(0,dN (hd a)),(1,dN (hd b)),(6,.own 14),(7,dN (hd (R%b))),(8,zI ((i:Int)-1))]) (ow':=[(14,⟨3,1,(q.map hN).set i (hN lo)⟩)]) az aD),q.set i lo,R%b,by omega,hlen,hdig,hmb,STEP,by rw[hms]⟩
  ·obtain⟨g,hg⟩:∃g,g=(lo+hi'+1)/2:=⟨_,rfl⟩;have hg1:lo<g:=by omega
   have hg2:g<=hi':=by omega
   have LESS:=M7 R (b*g) aa (by have:=hprod g aa;omega);refine zs2 ?_;refine ox ?_;refine bw ?_;refine cO ?_;refine sa ?_;refine Dv ?_;(refine aL1 rfl rfl rfl (by(first|(apply(Ny (c:=2));(exact rfl);(focus((apply aE;(conv=>lhs;whnf);(first|done|exact rfl))));(exact ct);(exact rfl);(exact rfl);(focus(apply sU;(try simp only[]);omega)))|(apply d_quoP;(exact rfl);(focus((apply aE;(conv=>lhs;whnf);(first|done|exact rfl))));(exact ct);(omega))|(apply RX;(exact rfl);(focus((apply aE;(conv=>lhs;whnf);(first|done|exact rfl))));(exact ct);(omega))|(apply Gn;(exact rfl);(focus((apply aE;(conv=>lhs;whnf);(first|done|exact rfl))));(exact ct);(focus(first|omega|decide))))) ?_);refine cT ?_
   (refine ay (aq (sl':=[(0,dN (hd a)),(1,dN (hd b)),(6,.own 14),(7,dN (hd R)),(8,zI (i:Nat)),(9,zI (lo:Nat)),(10,zI (hi':Nat)),(11,zI (g:Nat))]) (ow':=[(14,⟨3,1,q.map hN⟩)]) az aD) ?_)
   by_cases hlt:R<b*g
   ·refine zs2 ?_;refine QO ?_;refine bw ?_;refine wM ?_;refine zs2 ?_;simp only[nx,inB];exact⟨g-1-lo,_,by omega,(aq (sl':=[(0,dN (hd a)),(1,dN (hd b)),(6,.own 14),(7,dN (hd R)),(8,zI (i:Nat)),(9,zI (lo:Nat)),(10,zI ((g-1:Nat):Int))]) (ow':=[(14,⟨3,1,q.map hN⟩)]) az aD),lo,g-1,rfl,by omega,by omega,h3,by rw[show g-1+1=g by omega];exact hlt,rfl⟩
   ·refine zs2 ?_;refine QO ?_;refine bp ?_;refine kb ?_;simp only[nx,inB];exact⟨hi'-g,_,by omega,(aq (sl':=[(0,dN (hd a)),(1,dN (hd b)),(6,.own 14),(7,dN (hd R)),(8,zI (i:Nat)),(9,zI (g:Nat)),(10,zI (hi':Nat))]) (ow':=[(14,⟨3,1,q.map hN⟩)]) az aD),g,hi',rfl,by omega,by omega,by omega,h4,rfl⟩
end DW
end
section
open Go.RowKit
namespace DW
theorem Vi(a b:Nat):(hd (a*b)).length<=(hd a).length+(hd b).length:=by
 by_cases h0:b=0
 ·subst h0;rw[jA,(nk 0).2 rfl];omega
 apply jt;rw[fC];exact vB (rP a) (bO (rP b)) (eH av)
theorem FV(a b:Nat):(hd (a+b)).length<=max (hd a).length (hd b).length+1:=by
 apply jt;rw[ei];have h1:(65536:Nat)^(hd a).length<=65536^max (hd a).length (hd b).length:=cH av (Nat.le_max_left _ _);have h2:(65536:Nat)^(hd b).length<=65536^max (hd a).length (hd b).length:=cH av (Nat.le_max_right _ _);have:=rP a;have:=rP b;omega
theorem jQ(z:Int):Dg.iv (decide (z<0)) z.natAbs=z:=Af
theorem KK(n:Nat):Dg.iv false n=(n:Int):=rfl
set_option maxRecDepth 20000
set_option maxHeartbeats 1000000
theorem Lc(u v:Int)(hu:Hf u)(hv:Hf v):Fn Tryz.prog 83 [.nm u,.nm v] (.nm (u+v)):=by
 have D1:=iC hu;have D2:=iC hv;unfold Hf at hu hv;have hp:=FV u.natAbs v.natAbs;refine ba Tryz.func83 ai rfl rfl rfl fun X0=>?_;simp only[aO];by_cases hs:decide (u<0)=decide (v<0)
 ·have hb:(decide (u<0)==decide (v<0))=true:=by rw[hs,beq_self_eq_true]
  have M:=lk (s:=decide (u<0)) (n:=u.natAbs+v.natAbs) (z:=u+v) aa (by
   rw[Dg.Ih]
   conv=>lhs;rhs;rw[hs]
   rw[jQ,jQ])
  have PL:=Hp u.natAbs v.natAbs aa aa;refine wC ?_;refine JE ?_;refine zs2 ?_;refine QN ?_;refine bw ?_;refine JD ?_;refine zs2 ?_;exact⟨_,aA (k:=4) bf bA bz,.one (.cell 4 62) _ rfl (.cell 4 _ _ rfl rfl ai ai)⟩
 ·have hb:(decide (u<0)==decide (v<0))=false:=by rw[beq_eq_false_iff_ne];exact hs
  have LE:=M7 u.natAbs v.natAbs aa aa;refine wC ?_;refine JE ?_;refine zs2 ?_;refine QN ?_;refine bp ?_;refine cO ?_;refine jV ?_;refine ig ?_;by_cases hl:u.natAbs<v.natAbs
  ·have MI:=ux v.natAbs u.natAbs aa aa;have hm:=jR (show v.natAbs-u.natAbs<=v.natAbs by omega);have M:=lk (s:=decide (v<0)) (n:=v.natAbs-u.natAbs) (z:=u+v) aa (by
    rw[Dg.Ag hs aa,jQ,jQ])
   refine gP ?_;refine zs2 ?_;refine JD ?_;refine zs2 ?_;exact⟨_,aA (k:=4) bf bA bz,.one (.cell 4 62) _ rfl (.cell 4 _ _ rfl rfl ai ai)⟩
  ·have MI:=ux u.natAbs v.natAbs aa aa;have hm:=jR (show u.natAbs-v.natAbs<=u.natAbs by omega);have M:=lk (s:=decide (u<0)) (n:=u.natAbs-v.natAbs) (z:=u+v) aa (by
    rw[Dg.Ah hs aa,jQ,jQ])
   refine gQ ?_;refine zs2 ?_;refine JD ?_;refine zs2 ?_;exact⟨_,aA (k:=4) bf bA bz,.one (.cell 4 62) _ rfl (.cell 4 _ _ rfl rfl ai ai)⟩
theorem Ru(u v:Int)(hu:Hf u)(hv:Hf v):Fn Tryz.prog 187 [.nm u,.nm v] (.nm (u-v)):=by
 have N:=Di v hv;have A:=Lc u (-v) hu hv.neg;rw[<-Ep]at A;refine ba Tryz.func187 ai rfl rfl rfl fun X0=>?_;simp only[aO];refine wC ?_;((first|(apply aB 4;(focus kernel_rfl);(decide+kernel))|(apply aB 3;(focus kernel_rfl);(decide+kernel))|(apply aB 2;(focus kernel_rfl);(decide+kernel))|(apply aB 1;(focus kernel_rfl);(decide+kernel)));simp only[dJ,dv,eC,cY]);refine fR ?_;refine fR ?_;refine sd ?_;refine wE ?_;refine zs2 ?_;exact⟨_,aA (k:=4) bf bA bz,.one (.cell 4 62) _ rfl (.cell 4 _ _ rfl rfl ai ai)⟩
theorem Dk(u v:Int)(hu:Hf u)(hv:Hf v):Fn Tryz.prog 84 [.nm u,.nm v] (.nm (u*v)):=by
 have D1:=iC hu;have D2:=iC hv;unfold Hf at hu hv;have hp:=Vi u.natAbs v.natAbs;have T:=Ey (hd u.natAbs) (hd v.natAbs) (jN _) (jN _) aa aa;rw[jF,jF]at T;have M:=lk (s:=!(decide (u<0)==decide (v<0))) (n:=u.natAbs*v.natAbs) (z:=u*v) aa (by
  have:=Dg.FE (decide (u<0)) (decide (v<0)) u.natAbs v.natAbs;rw[jQ,jQ]at this;exact this)
 refine ba Tryz.func84 ai rfl rfl rfl fun X0=>?_;simp only[aO];refine wC ?_;refine Du ?_;refine uY ?_;refine fR ?_;refine uY ?_;refine fR ?_;refine AV ?_;refine fR ?_;refine sd ?_;refine fR ?_;refine sd ?_;refine tG ?_;refine wE ?_;refine zs2 ?_;exact⟨_,aA (k:=4) bf bA bz,.one (.cell 4 62) _ rfl (.cell 4 _ _ rfl rfl ai ai)⟩
theorem Hf.sub'{u v:Int}(hu:(hd u.natAbs).length<=199999999)(hv:(hd v.natAbs).length<=199999999):Hf (u-v):=by
 unfold Hf;have h1:=FV u.natAbs v.natAbs;have h2:=jR (show(u-v).natAbs<=u.natAbs+v.natAbs by omega);omega
theorem KX(u v:Int)(hu:(hd u.natAbs).length<=199999999)(hv:(hd v.natAbs).length<=199999999):Fn Tryz.prog 147 [.nm u,.nm v] (zI (sgn (u-v))):=by
 have A:=Ru u v (by unfold Hf;omega) (by unfold Hf;omega);have B:=oS (u-v) (Hf.sub' hu hv);refine ba Tryz.func147 ai rfl rfl rfl fun X0=>?_;simp only[aO];refine zs2 ?_;refine jw ?_;refine Dw ?_;refine lu ?_;refine ig ?_;refine mI ?_;refine ir ?_;refine jV ?_;refine iq ?_;refine cT ?_;exact⟨_,Sh.refl,.one (.tmp 4) _ rfl (.tmp 4 rfl)⟩
end DW
end
section
open Go.RowKit
namespace DW
theorem Ai:hd 1=[1]:=by
 have:=Dg.Gk (b:=65536) (l:=[1]) av ⟨fun x hx=>by rw[bU.1 hx];decide,by decide⟩;rw[LF]at this;exact this
set_option maxRecDepth 20000
set_option maxHeartbeats 1000000
theorem yK(u v:Int)(hu:Hf u)(hv:Hf v)(hv0:v≠0):Fn Tryz.prog 148 [.nm u,.nm v] (.tp [.nm (u/v),.nm (u%v),zI 0]):=by
 have D1:=iC hu;have D2:=iC hv;unfold Hf at hu hv;have hn0:0<v.natAbs:=by omega
 have hl0:(hd v.natAbs).length≠0:=fun e=>by have:=(nk _).1 e;omega
 have DV:=Cz u.natAbs v.natAbs aa aa hn0;have I:=Dg.Nc (s:=decide (u<0)) (t:=decide (v<0)) (m:=u.natAbs) (n:=v.natAbs) hn0;rw[jQ,jQ]at I;have hm:=jR (bO (eu u.natAbs hn0));have hq:=jR (tW u.natAbs v.natAbs);have hr0:(hd (u.natAbs%v.natAbs)).length=0↔u.natAbs%v.natAbs=0:=nk _;refine ba Tryz.func148 ai rfl rfl rfl fun X0=>?_;simp only[aO];refine zs2 ?_;refine jw ?_;refine Dw ?_;refine zs76 ?_;refine zs78 ?_;refine lu ?_;refine ig ?_;refine wK ?_;refine zs2 ?_;refine yU ?_;refine bp ?_;refine kW ?_;refine zs4 ?_;refine jV ?_;refine kX ?_;refine zs6 ?_;refine cT ?_;by_cases hneg:u<0
 ·by_cases hr:u.natAbs%v.natAbs=0
  ·obtain⟨e1,e2⟩:=I.1 (.inr hr);have hr':=hr0.2 hr;have M1:=lk (s:=!(decide (u<0)==decide (v<0))) (n:=u.natAbs/v.natAbs) (z:=u/v) aa e1.symm;have M2:=lk (s:=false) (n:=u.natAbs%v.natAbs) (z:=u%v) aa (by rw[e2,KK]);have hd1:decide (u<0)=true:=au hneg;refine zs2 ?_;refine JC ?_;refine bp ?_;refine JB ?_;refine zs2 ?_;exact⟨_,(aA (k:=4) bf bA bz).trans (aA (k:=5) bf bA bz),.three (.cell 4 62) (.cell 5 62) (.tmp 6) _ _ _ rfl (.cell 4 _ _ rfl rfl ai ai) (.cell 5 _ _ rfl rfl ai ai) (.tmp 6 rfl)⟩
  ·obtain⟨e1,e2⟩:=I.2 (au hneg) aa;have hr':(hd (u.natAbs%v.natAbs)).length≠0:=fun e=>hr (hr0.1 e);have hq2:=FV (u.natAbs/v.natAbs) 1;rw[Ai,ff]at hq2;have PL:=Hp (u.natAbs/v.natAbs) 1 aa (by rw[Ai];simp);rw[Ai]at PL;have MI:=ux v.natAbs (u.natAbs%v.natAbs) aa (bO (eu _ hn0));have hm2:=jR (show v.natAbs-u.natAbs%v.natAbs<=v.natAbs by omega);have M1:=lk (s:=!(decide (u<0)==decide (v<0))) (n:=u.natAbs/v.natAbs+1) (z:=u/v) aa e1.symm;have M2:=lk (s:=false) (n:=v.natAbs-u.natAbs%v.natAbs) (z:=u%v) aa (by rw[e2,KK]);have hd1:decide (u<0)=true:=au hneg;refine zs2 ?_;refine JC ?_;refine bw ?_;refine cn ?_;(refine aL1 rfl rfl rfl (by(apply R4;(exact rfl);(focus((first|exact op_zero|exact rfl)));(exact rfl);(focus((first|exact iM|exact iK|exact iL|exact wd_pt|exact rfl)));(kernel_rfl);(kernel_rfl);(exact rfl);(exact rfl))) ?_);refine jV ?_;refine zs4 ?_;refine zs4 ?_;refine jV ?_;refine zs6 ?_;refine cT ?_;refine JB ?_;refine zs2 ?_;exact⟨_,(aA (k:=4) bf bA bz).trans (aA (k:=5) bf bA bz),.three (.cell 4 62) (.cell 5 62) (.tmp 6) _ _ _ rfl (.cell 4 _ _ rfl rfl ai ai) (.cell 5 _ _ rfl rfl ai ai) (.tmp 6 rfl)⟩
 ·have hd1:decide (u<0)=false:=aw hneg;obtain⟨e1,e2⟩:=I.1 (.inl hd1);have M1:=lk (s:=!(decide (u<0)==decide (v<0))) (n:=u.natAbs/v.natAbs) (z:=u/v) aa e1.symm;have M2:=lk (s:=false) (n:=u.natAbs%v.natAbs) (z:=u%v) aa (by rw[e2,KK]);refine zs2 ?_;refine JC ?_;refine bp ?_;refine JB ?_;refine zs2 ?_;exact⟨_,(aA (k:=4) bf bA bz).trans (aA (k:=5) bf bA bz),.three (.cell 4 62) (.cell 5 62) (.tmp 6) _ _ _ rfl (.cell 4 _ _ rfl rfl ai ai) (.cell 5 _ _ rfl rfl ai ai) (.tmp 6 rfl)⟩
theorem RB(u v:Int)(hu:Hf u)(hv:Hf v)(hv0:v≠0):Fn Tryz.prog 123 [.nm u,.nm v] (.nm (u/v)):=by
 have D:=yK u v hu hv hv0;refine ba Tryz.func123 ai rfl rfl rfl fun X0=>?_;simp only[aO];refine wC ?_;refine mI ?_;refine ir ?_;refine jV ?_;refine kX ?_;refine ye ?_;refine zs78 ?_;(refine ez (k:=6) (z:=(.agg #[.bool false,.slice none 0 0])) (d:=(.nm 0)) rfl rfl rfl rfl rfl ai aj aj dT aj aj cu ?_);refine lT ?_;refine lT ?_;refine cT ?_;refine mI ?_;refine gw ?_;refine zs2 ?_;exact⟨_,aA (k:=4) bf bA bz,.one (.cell 4 62) _ rfl (.cell 4 _ _ rfl rfl ai ai)⟩
theorem gcd_d(u v:Int)(hu:Hf u)(hv:Hf v):Fn Tryz.prog 122 [.nm u,.nm v] (.nm (Int.gcd u v:Int)):=by
 have D1:=iC hu;have D2:=iC hv;unfold Hf at hu hv;refine ba Tryz.func122 ai rfl rfl rfl fun X0=>?_;simp only[aO];refine wC ?_;refine JE ?_;refine zs2 ?_
 (refine ay (aq (sl':=[(4,.opt 4 0),(5,dN (hd u.natAbs)),(6,dN (hd v.natAbs))]) (ow':=[(4,⟨62,2,[.nm 0]⟩)]) az aD) ?_)
 refine bc (fun r s=>∃a,Nat.gcd a r=Int.gcd u v/\(hd a).length<=200000000/\(hd r).length<=200000000/\s=⟨[(4,.opt 4 0),(5,dN (hd a)),(6,dN (hd r))],[(4,⟨62,2,[.nm 0]⟩)]⟩) (m:=v.natAbs) ⟨u.natAbs,rfl,hu,hv,rfl⟩ fun r s hs=>?_;obtain⟨a,h1,h2,h3,rfl⟩:=hs;by_cases hr:r=0
 ·have hl:(hd r).length=0:=(nk _).2 hr;subst hr;rw[Nat.gcd_zero_right]at h1;have M:=lk (s:=false) (n:=a) (z:=(Int.gcd u v:Int)) aa (by rw[KK,h1]);refine zs2 ?_;refine jv ?_;refine zs7 ?_;refine aX ?_;refine bp ?_;refine cn ?_;refine zs80 ?_;refine gw ?_;refine zs2 ?_;exact⟨_,aA (k:=4) bf bA bz,.one (.cell 4 62) _ rfl (.cell 4 _ _ rfl rfl ai ai)⟩
 ·have hl:(hd r).length≠0:=fun e=>hr ((nk _).1 e);have DV:=Cz a r aa aa aa;have hlt:=eu a (show 0<r by omega);have hm:=jR (bO hlt);have hg:Nat.gcd r (a%r)=Int.gcd u v:=by rw[<-h1,Nat.gcd_comm a r,Nat.gcd_rec r a,Nat.gcd_comm]
  refine zs2 ?_;refine jv ?_;refine zs7 ?_;refine aX ?_;refine bw ?_;refine cO ?_;refine jV ?_;refine kX ?_;refine zs6 ?_;refine cT ?_;refine cO ?_;refine zs6 ?_;refine cT ?_;simp only[nx,inB];exact⟨a%r,_,hlt,(aq (sl':=[(4,.opt 4 0),(5,dN (hd r)),(6,dN (hd (a%r)))]) (ow':=[(4,⟨62,2,[.nm 0]⟩)]) az aD),r,hg,h3,by omega,rfl⟩
end DW
end
end Go.Proofs.YtcgjmdpcplhanaaGreat
