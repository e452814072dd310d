/- Lemmas for the law: E7 E8 E9 -/
import Derived.Test.YtcgjmdpcplhanaaGreatZh4
namespace Go.Proofs.YtcgjmdpcplhanaaGreat
section
theorem zb40{p:Prop}(h:p:=by(apply xt;(exact rfl);(focus((apply an;(conv=>lhs;whnf);(first|done|exact rfl))));(exact rfl))):p:=h
theorem ir{p q:Prop}(h:q)(f:Wq q->p:=by(intro hW;(refine aL1 rfl rfl rfl zb40 ?_);exact hW.out)):p:=f ⟨h⟩
theorem iB{p q:Prop}(h:q)(f:Wq q->p:=by(intro hW;((refine gar ?_;refine zs4 ?_;refine zs6 ?_;refine af ?_));exact hW.out)):p:=f ⟨h⟩
theorem jN{p q:Prop}(h:q)(f:Wq q->p:=by(intro hW;(refine aL1 rfl rfl rfl oh ?_);exact hW.out)):p:=f ⟨h⟩
theorem zs76{p q:Prop}(h:q)(f:Wq q->p:=by(intro hW;((refine kE (k:=4) (z:=(.agg #[.bool false,.slice none 0 0])) (d:=(.nm 0)) rfl rfl rfl rfl rfl ae aa aa dL aa aa bZ ?_));exact hW.out)):p:=f ⟨h⟩
theorem vf{p q:Prop}(h:q)(f:Wq q->p:=by(intro hW;((refine gar ?_;refine gU ?_;refine gU ?_;refine zs76 ?_;refine af ?_));exact hW.out)):p:=f ⟨h⟩
theorem zX{p q:Prop}(h:q)(f:Wq q->p:=by(intro hW;((refine zs41 ?_;refine vE ?_;refine bp ?_;refine aQ ?_;refine aQ ?_;refine gT ?_;refine gT ?_;refine sZ ?_;refine di ?_));exact hW.out)):p:=f ⟨h⟩
theorem zW{p q:Prop}(h:q)(f:Wq q->p:=by(intro hW;((refine gar ?_;refine oc ?_;refine br ?_;refine zs4 ?_;refine zs8 ?_;refine iw ?_;refine mU ?_;refine iC ?_;refine af ?_));exact hW.out)):p:=f ⟨h⟩
theorem zs75{p q:Prop}(h:q)(f:Wq q->p:=by(intro hW;(refine aL1 rfl rfl rfl (by(apply kC;(exact rfl);(focus((apply an;(conv=>lhs;whnf);(first|done|exact rfl))));(focus((apply an;(conv=>lhs;whnf);(first|done|exact rfl))));(exact rfl);(exact rfl);(focus((first|exact TIMES g (by omega))));(exact rfl))) ?_);exact hW.out)):p:=f ⟨h⟩
theorem Gp{p q:Prop}(h:q)(f:Wq q->p:=by(intro hW;((refine gar ?_;refine zs4 ?_;refine zs4 ?_;refine zs4 ?_;refine mV ?_;refine zs75 ?_;refine jN ?_;refine af ?_));exact hW.out)):p:=f ⟨h⟩
theorem zs79{p q:Prop}(h:q)(f:Wq q->p:=by(intro hW;(refine aL1 rfl rfl rfl (by(apply kC;(exact rfl);(exact gw);(focus((apply an;(conv=>lhs;whnf);(first|done|exact rfl))));(exact rfl);(exact rfl);(assumption);(exact rfl))) ?_);exact hW.out)):p:=f ⟨h⟩
theorem zV{p q:Prop}(h:q)(f:Wq q->p:=by(intro hW;((refine gar ?_;refine oc ?_;refine br ?_;refine oc ?_;refine br ?_;refine oa ?_;refine zs4 ?_;refine jN ?_;refine zs4 ?_;refine zs79 ?_;refine iy ?_;refine iy ?_;refine kF ?_;refine af ?_));exact hW.out)):p:=f ⟨h⟩
theorem Gn{p q:Prop}(h:q)(f:Wq q->p:=by(intro hW;((refine zs36 ?_;refine bp ?_;refine od ?_;refine bp ?_;refine od ?_;refine mX ?_;refine mX ?_;refine di ?_));exact hW.out)):p:=f ⟨h⟩
theorem zw{p q:Prop}(h:q)(f:Wq q->p:=by(intro hW;(refine aL1 rfl rfl rfl (by(first|(apply cA;(exact rfl);(focus((apply an;(conv=>lhs;whnf);(first|done|exact rfl))));(focus((apply an;(conv=>lhs;whnf);(first|done|exact rfl))));(exact rfl))|(apply He;(exact rfl);(focus((apply an;(conv=>lhs;whnf);(first|done|exact rfl))));(focus((apply an;(conv=>lhs;whnf);(first|done|exact rfl))));(kernel_rfl)))) ?_);exact hW.out)):p:=f ⟨h⟩
theorem Gm{p q:Prop}(h:q)(f:Wq q->p:=by(intro hW;((refine gar ?_;refine oc ?_;refine br ?_;refine oc ?_;refine br ?_;refine zw ?_;refine af ?_));exact hW.out)):p:=f ⟨h⟩
theorem rl{p q:Prop}(h:q)(f:Wq q->p:=by(intro hW;((refine gar ?_;refine zs4 ?_;refine zs5 ?_;refine mW ?_;refine af ?_));exact hW.out)):p:=f ⟨h⟩
theorem sW{p q:Prop}(h:q)(f:Wq q->p:=by(intro hW;(refine aL1 rfl rfl rfl zb0 ?_);exact hW.out)):p:=f ⟨h⟩
theorem zx{p q:Prop}(h:q)(f:Wq q->p:=by(intro hW;(refine aL1 rfl rfl rfl zb3 ?_);exact hW.out)):p:=f ⟨h⟩
theorem eV{p q:Prop}(h:q)(f:Wq q->p:=by(intro hW;((refine gar ?_;refine zs4 ?_;refine zs4 ?_;refine lU ?_;refine af ?_));exact hW.out)):p:=f ⟨h⟩
end
section
open Go.RowKit
namespace DW
theorem BX(b x:Nat):Dg.vl b [x]=x:=by simp[Dg.vl]
set_option maxRecDepth 20000
set_option maxHeartbeats 1000000
theorem Dt(a b:Nat)(ha:(hd a).length<=300000000)(hb:(hd b).length<=300000000)(hb0:0<b):Fn Tryz.prog 168 [dN (hd a),dN (hd b)] (.tp [dN (hd (a/b)),dN (hd (a%b))]):=by
 refine bn Tryz.func168 ae rfl rfl rfl fun X0=>?_;simp only[aE];obtain⟨L,hL⟩:∃L,L=(hd a).length:=⟨_,rfl⟩;have hLc:((hd a).length:Int)=(L:Int):=by omega
 (repeat(first|refine gk fun K hK=>?_|refine zs2 ?_));(refine gar ?_;refine zs3 ?_;refine zs3 ?_;refine af ?_);(repeat(first|refine gk fun K hK=>?_|refine zs2 ?_));(refine gar ?_;refine zs4 ?_;refine zs5 ?_;(refine Ec (k:=14) (T:=Tryz.prog.elem 40) (zv:=(.int .i64 0)) (d0:=(.sc (.int .i64 0))) (wd:=1) rfl rfl rfl rfl bq bq ae ae aa aa aa aa aa (by omega) zb61 aa bZ ?_);refine zs6 ?_;refine af ?_);(repeat(first|refine gk fun K hK=>?_|refine zs2 ?_));refine cw ?_;(repeat(first|refine gk fun K hK=>?_|refine zs2 ?_));refine zZ ?_;(repeat(first|refine gk fun K hK=>?_|refine zs2 ?_))
 (refine aq (BF (t:=7) (wd:=1) fI) ?_)
 (refine aq (aj (sl':=[(0,dN (hd a)),(1,dN (hd b)),(6,.own 14),(7,.ls 1 []),(8,zI ((hd a).length-1))]) (ow':=[(14,⟨3,1,List.replicate L (zI 0)⟩)]) au ay) ?_)
 refine aF (fun r s=>∃q m,r<=L/\q.length=L/\Dg.dig 65536 q/\m<b/\Dg.vl 65536 ((hd a).drop r)=b*Dg.vl 65536 (q.drop r)+m/\s=⟨[(0,dN (hd a)),(1,dN (hd b)),(6,.own 14),(7,dN (hd m)),(8,zI (r-1))],[(14,⟨3,1,q.map hN⟩)]⟩) (m:=L) ⟨List.replicate L 0,0,Nat.le_refl _,by simp,Dg.eh (by decide) _,hb0,by rw[List.drop_of_length_le (by omega),List.drop_of_length_le (by simp)];simp[Dg.vl],by rw[List.map_replicate,<-hL,show hd 0=[]from List.length_eq_zero_iff.1 ((kR 0).2 rfl)];rfl⟩ fun r s hs=>?_;obtain⟨q,m,hr,hq,hdq,hm,hv,rfl⟩:=hs;by_cases hr0:r=0
 ·subst hr0;rw[List.drop_zero,List.drop_zero,fi]at hv;have e1:a/b=Dg.vl 65536 q:=by rw[hv,Nat.mul_add_div hb0,Nat.div_eq_of_lt hm,Nat.add_zero]
  have e2:a%b=m:=by rw[hv,Nat.mul_add_mod,Nat.mod_eq_of_lt hm]
  have T:=rD (l:=q) (by omega) hdq e1.symm;clear hv
  (repeat(first|refine gk fun K hK=>?_|refine zs2 ?_));refine eW ?_;(repeat(first|refine gk fun K hK=>?_|refine zs2 ?_))
  refine az ?_
  (repeat(first|refine gk fun K hK=>?_|refine zs2 ?_))
  refine aq (aG (k:=14) bc bJ bI) ?_
  (refine gar ?_;refine zs4 ?_;refine cZ ?_;refine zs4 ?_;refine zs6 ?_;refine zs6 ?_;refine af ?_)
  (repeat(first|refine gk fun K hK=>?_|refine zs2 ?_))
  rw[e2];exact⟨_,Sh.refl,.two (.tmp 4) (.tmp 5) _ _ rfl (.tmp 4 rfl) (.tmp 5 rfl)⟩
 ·obtain⟨i,rfl⟩:∃i,r=i+1:=⟨r-1,by omega⟩;have hi:i<(hd a).length:=by omega
  have hiq:i<q.length:=by omega
  have STEP:=Dg.rN (B:=65536) (a:=hd a) (o:=q) (i:=i) (d:=b) (r:=m) hi hiq hv;clear hv;have hx:=kS hi;have hxl:(hd a).getD i 0<65536:=Dg.aR (fw a) (by decide) i;obtain⟨x,hxd⟩:∃x,x=(hd a).getD i 0:=⟨_,rfl⟩;rw[<-hxd]at hx hxl STEP;have hc:((i+1:Nat):Int)-1=(i:Int):=by omega
  have hml:(hd m).length<=(hd b).length:=il (by omega);have T:=rD (l:=x::hd m) (by simp only[List.length_cons];omega) (fun y hy=>by
   rcases List.mem_cons.1 hy with rfl|h
   ·exact hxl
   ·exact fw m y h) (n:=m*65536+x) (by rw[Dg.cJ,fi];omega)
  obtain⟨R,hR⟩:∃R,R=m*65536+x:=⟨_,rfl⟩;rw[<-hR]at T STEP;have hRb:R/b<65536:=by
   rw[Nat.div_lt_iff_lt_mul hb0];have:=Nat.mul_le_mul_right 65536 (show m+1<=b by omega);rw[Nat.mul_comm 65536 b];omega
  have hRl:(hd R).length<=(hd b).length+1:=eR (by
   have h1:=lI b;rw[Nat.pow_succ];have h4:=Nat.mul_le_mul_right 65536 (show m+1<=b by omega);have h5:=Nat.mul_le_mul_right 65536 (Nat.le_of_lt h1);omega)
  have TIMES:∀g:Nat,g<65536->Fn Tryz.prog 155 [dN (hd b),dN [g]] (dN (hd (b*g))):=fun g hg=>by
   have:=vS (hd b) [g] (fw b) (fun y hy=>by rw[List.mem_singleton.1 hy];exact hg) (by omega) (by simp);rwa[fi,BX]at this
  have hprod:∀g,g<65536->(hd (b*g)).length<=(hd b).length+1:=fun g hg=>eR (by
   have h1:=lI b;rw[Nat.pow_succ];have h4:b*g<=b*65536:=Nat.mul_le_mul_left b (by omega);have h5:=Nat.mul_lt_mul_of_pos_right h1 (show 0<65536 by decide);omega)
  have hml2:(hd m).length<=300000000:=by omega
  clear hml hxd
  (repeat(first|refine gk fun K hK=>?_|refine zs2 ?_));refine eW ?_;(repeat(first|refine gk fun K hK=>?_|refine zs2 ?_))
  refine av ?_
  (repeat(first|refine gk fun K hK=>?_|refine zs2 ?_));(refine gar ?_;refine zs4 ?_;refine zs4 ?_;refine zx ?_;refine sW ?_;(refine Kw (k:=26) (T:=Tryz.prog.elem 40) rfl rfl rfl rfl bq aa dL aa ae ae aa aa aa bZ ?_);refine zs4 ?_;refine vD ?_;refine Bw (aG (k:=26) bc bJ bI) ?_;refine cZ ?_;refine zs6 ?_;refine af ?_);(repeat(first|refine gk fun K hK=>?_|refine zs2 ?_));(refine gar ?_;refine kF ?_;refine kF ?_;refine af ?_);(repeat(first|refine gk fun K hK=>?_|refine zs2 ?_))
  (refine aq (aj (sl':=[(0,dN (hd a)),(1,dN (hd b)),(6,.own 14),(7,dN (hd R)),(8,zI (i:Nat)),(9,zI ((0:Nat):Int)),(10,zI ((65535:Nat):Int))]) (ow':=[(14,⟨3,1,q.map hN⟩)]) au ay) ?_)
  refine aF (fun r s=>∃lo hi,r=hi-lo/\lo<=hi/\hi<65536/\b*lo<=R/\R<b*(hi+1)/\s=⟨[(0,dN (hd a)),(1,dN (hd b)),(6,.own 14),(7,dN (hd R)),(8,zI (i:Nat)),(9,zI (lo:Nat)),(10,zI (hi:Nat))],[(14,⟨3,1,q.map hN⟩)]⟩) (m:=65535) ⟨0,65535,rfl,by omega,by omega,by omega,by
   rw[Nat.div_lt_iff_lt_mul hb0]at hRb;rw[Nat.mul_comm];exact hRb,rfl⟩ fun r s hs=>?_
  obtain⟨lo,hi',rfl,h1,h2,h3,h4,rfl⟩:=hs;by_cases hlh:lo=hi'
  ·subst hlh;have e1:R/b=lo:=by
    apply Nat.le_antisymm
    ·have:=(Nat.div_lt_iff_lt_mul hb0).2 (by rw[Nat.mul_comm];exact h4);omega
    ·exact(Nat.le_div_iff_mul_le hb0).2 (by rw[Nat.mul_comm];exact h3)
   have e2:R%b=R-b*lo:=by rw[Nat.mod_def,e1]
   have hmb:R%b<b:=Nat.mod_lt _ hb0;rw[e1]at STEP;have MIN:=nD R (b*lo) (by omega) h3;rw[<-e2]at MIN;have hlen:(q.set i lo).length=L:=by rw[List.length_set];exact hq
   have hdig:=Dg.cX hdq (j:=i) (show lo<65536 by omega);have hms:=map_set q i lo
   (repeat(first|refine gk fun K hK=>?_|refine zs2 ?_));refine eV ?_;(repeat(first|refine gk fun K hK=>?_|refine zs2 ?_))
   refine az ?_
   (repeat(first|refine gk fun K hK=>?_|refine zs2 ?_));(refine gar ?_;refine zs4 ?_;refine zs4 ?_;refine zs4 ?_;refine dh ?_;(refine kD (i:=i) rfl rfl rfl bq bq bc aa lW aa dL aa ae lX ?_);refine af ?_);(repeat(first|refine gk fun K hK=>?_|refine zs2 ?_));(refine gar ?_;refine zs4 ?_;refine zs4 ?_;refine zs4 ?_;refine mV ?_;(refine aL1 rfl rfl rfl (by(apply kC;(exact rfl);(focus((apply an;(conv=>lhs;whnf);(first|done|exact rfl))));(focus((apply an;(conv=>lhs;whnf);(first|done|exact rfl))));(exact rfl);(exact rfl);(focus((first|exact TIMES lo (by omega))));(exact rfl))) ?_);refine jN ?_;refine zs6 ?_;refine af ?_);(repeat(first|refine gk fun K hK=>?_|refine zs2 ?_));refine pq ?_;(repeat(first|refine gk fun K hK=>?_|refine zs2 ?_))
   simp only[nx,inB];exact⟨i,_,by omega,(aj (sl':=[(0,dN (hd a)),(1,dN (hd b)),(6,.own 14),(7,dN (hd (R%b))),(8,zI ((i:Int)-1))]) (ow':=[(14,⟨3,1,(q.map hN).set i (hN lo)⟩)]) au ay),q.set i lo,R%b,by omega,hlen,hdig,hmb,STEP,by rw[hms]⟩
  ·obtain⟨g,hg⟩:∃g,g=(lo+hi'+1)/2:=⟨_,rfl⟩;have hg1:lo<g:=by omega
   have hg2:g<=hi':=by omega
   have LESS:=C4 R (b*g) (by omega) (by have:=hprod g (by omega);omega)
   (repeat(first|refine gk fun K hK=>?_|refine zs2 ?_));refine eV ?_;(repeat(first|refine gk fun K hK=>?_|refine zs2 ?_))
   refine av ?_
   (repeat(first|refine gk fun K hK=>?_|refine zs2 ?_));(refine gar ?_;refine zs4 ?_;refine zs4 ?_;refine nZ ?_;refine zA ?_;refine zs53 ?_;refine zs6 ?_;refine af ?_);(repeat(first|refine gk fun K hK=>?_|refine zs2 ?_))
   (refine aq (aj (sl':=[(0,dN (hd a)),(1,dN (hd b)),(6,.own 14),(7,dN (hd R)),(8,zI (i:Nat)),(9,zI (lo:Nat)),(10,zI (hi':Nat)),(11,zI (g:Nat))]) (ow':=[(14,⟨3,1,q.map hN⟩)]) au ay) ?_)
   by_cases hlt:R<b*g
   ·(repeat(first|refine gk fun K hK=>?_|refine zs2 ?_));refine Gp ?_;(repeat(first|refine gk fun K hK=>?_|refine zs2 ?_))
    refine av ?_
    (repeat(first|refine gk fun K hK=>?_|refine zs2 ?_));refine pq ?_;(repeat(first|refine gk fun K hK=>?_|refine zs2 ?_))
    simp only[nx,inB];exact⟨g-1-lo,_,by omega,(aj (sl':=[(0,dN (hd a)),(1,dN (hd b)),(6,.own 14),(7,dN (hd R)),(8,zI (i:Nat)),(9,zI (lo:Nat)),(10,zI ((g-1:Nat):Int))]) (ow':=[(14,⟨3,1,q.map hN⟩)]) au ay),lo,g-1,rfl,by omega,by omega,h3,by rw[show g-1+1=g by omega];exact hlt,rfl⟩
   ·(repeat(first|refine gk fun K hK=>?_|refine zs2 ?_));refine Gp ?_;(repeat(first|refine gk fun K hK=>?_|refine zs2 ?_))
    refine az ?_
    (repeat(first|refine gk fun K hK=>?_|refine zs2 ?_));refine iB ?_;(repeat(first|refine gk fun K hK=>?_|refine zs2 ?_))
    simp only[nx,inB];exact⟨hi'-g,_,by omega,(aj (sl':=[(0,dN (hd a)),(1,dN (hd b)),(6,.own 14),(7,dN (hd R)),(8,zI (i:Nat)),(9,zI (g:Nat)),(10,zI (hi':Nat))]) (ow':=[(14,⟨3,1,q.map hN⟩)]) au ay),g,hi',rfl,by omega,by omega,by omega,h4,rfl⟩
end DW
end
section
open Go.RowKit
namespace DW
theorem Ke(a b:Nat):(hd (a*b)).length<=(hd a).length+(hd b).length:=by
 by_cases h0:b=0
 ·subst h0;rw[Nat.mul_zero,(kR 0).2 rfl];omega
 apply eR;rw[Nat.pow_add];exact Nat.mul_lt_mul_of_lt_of_le (lI a) (Nat.le_of_lt (lI b)) (Nat.pow_pos (by decide))
theorem wX(a b:Nat):(hd (a+b)).length<=max (hd a).length (hd b).length+1:=by
 apply eR;rw[Nat.pow_succ];have h1:(65536:Nat)^(hd a).length<=65536^max (hd a).length (hd b).length:=Nat.pow_le_pow_right (by decide) (Nat.le_max_left _ _);have h2:(65536:Nat)^(hd b).length<=65536^max (hd a).length (hd b).length:=Nat.pow_le_pow_right (by decide) (Nat.le_max_right _ _);have:=lI a;have:=lI b;omega
theorem fB(z:Int):Dg.iv (decide (z<0)) z.natAbs=z:=so
theorem iv_f(n:Nat):Dg.iv false n=(n:Int):=rfl
set_option maxRecDepth 20000
set_option maxHeartbeats 1000000
theorem Bv(u v:Int)(hu:Hf u)(hv:Hf v):Fn Tryz.prog 83 [.nm u,.nm v] (.nm (u+v)):=by
 have D1:=fE hu;have D2:=fE hv;unfold Hf at hu hv;have hp:=wX u.natAbs v.natAbs;refine bn Tryz.func83 ae rfl rfl rfl fun X0=>?_;simp only[aE];by_cases hs:decide (u<0)=decide (v<0)
 ·have hb:(decide (u<0)==decide (v<0))=true:=by rw[hs,beq_self_eq_true]
  have M:=gQ (s:=decide (u<0)) (n:=u.natAbs+v.natAbs) (z:=u+v) (by omega) (by
   rw[Dg.yP]
   conv=>lhs;rhs;rw[hs]
   rw[fB,fB])
  have PL:=yD u.natAbs v.natAbs (by omega) (by omega)
  (repeat(first|refine gk fun K hK=>?_|refine zs2 ?_));refine vf ?_;(repeat(first|refine gk fun K hK=>?_|refine zs2 ?_));refine Gn ?_;(repeat(first|refine gk fun K hK=>?_|refine zs2 ?_));refine Gm ?_;(repeat(first|refine gk fun K hK=>?_|refine zs2 ?_))
  refine av ?_
  (repeat(first|refine gk fun K hK=>?_|refine zs2 ?_));refine zX ?_;(repeat(first|refine gk fun K hK=>?_|refine zs2 ?_))
  exact⟨_,aG (k:=4) bc bJ bI,.one (.cell 4 62) _ rfl (.cell 4 _ _ rfl rfl ae ae)⟩
 ·have hb:(decide (u<0)==decide (v<0))=false:=by rw[beq_eq_false_iff_ne];exact hs
  have LE:=C4 u.natAbs v.natAbs (by omega) (by omega)
  (repeat(first|refine gk fun K hK=>?_|refine zs2 ?_));refine vf ?_;(repeat(first|refine gk fun K hK=>?_|refine zs2 ?_));refine Gn ?_;(repeat(first|refine gk fun K hK=>?_|refine zs2 ?_));refine Gm ?_;(repeat(first|refine gk fun K hK=>?_|refine zs2 ?_))
  refine az ?_
  (repeat(first|refine gk fun K hK=>?_|refine zs2 ?_));(refine gar ?_;refine zs4 ?_;refine zs4 ?_;refine jN ?_;refine af ?_);(repeat(first|refine gk fun K hK=>?_|refine zs2 ?_))
  by_cases hl:u.natAbs<v.natAbs
  ·have MI:=nD v.natAbs u.natAbs (by omega) (by omega);have hm:=il (show v.natAbs-u.natAbs<=v.natAbs by omega);have M:=gQ (s:=decide (v<0)) (n:=v.natAbs-u.natAbs) (z:=u+v) (by omega) (by
    rw[Dg.sq hs (by omega),fB,fB])
   refine av ?_
   (repeat(first|refine gk fun K hK=>?_|refine zs2 ?_));refine zX ?_;(repeat(first|refine gk fun K hK=>?_|refine zs2 ?_))
   exact⟨_,aG (k:=4) bc bJ bI,.one (.cell 4 62) _ rfl (.cell 4 _ _ rfl rfl ae ae)⟩
  ·have MI:=nD u.natAbs v.natAbs (by omega) (by omega);have hm:=il (show u.natAbs-v.natAbs<=u.natAbs by omega);have M:=gQ (s:=decide (u<0)) (n:=u.natAbs-v.natAbs) (z:=u+v) (by omega) (by
    rw[Dg.su hs (by omega),fB,fB])
   refine az ?_
   (repeat(first|refine gk fun K hK=>?_|refine zs2 ?_));refine zX ?_;(repeat(first|refine gk fun K hK=>?_|refine zs2 ?_))
   exact⟨_,aG (k:=4) bc bJ bI,.one (.cell 4 62) _ rfl (.cell 4 _ _ rfl rfl ae ae)⟩
theorem GX(u v:Int)(hu:Hf u)(hv:Hf v):Fn Tryz.prog 187 [.nm u,.nm v] (.nm (u-v)):=by
 have N:=AU v hv;have A:=Bv u (-v) hu hv.neg;rw[<-Int.sub_eq_add_neg]at A;refine bn Tryz.func187 ae rfl rfl rfl fun X0=>?_;simp only[aE]
 (repeat(first|refine gk fun K hK=>?_|refine zs2 ?_));refine vf ?_;(repeat(first|refine gk fun K hK=>?_|refine zs2 ?_));(((first|(apply ai 4;(focus kernel_rfl);(decide+kernel))|(apply ai 3;(focus kernel_rfl);(decide+kernel))|(apply ai 2;(focus kernel_rfl);(decide+kernel))|(apply ai 1;(focus kernel_rfl);(decide+kernel)));simp only[List.take_succ_cons,List.take_zero,List.drop_succ_cons,List.drop_zero]);refine bp ?_;refine bp ?_;refine od ?_;refine gT ?_;refine sZ ?_;refine di ?_);(repeat(first|refine gk fun K hK=>?_|refine zs2 ?_))
 exact⟨_,aG (k:=4) bc bJ bI,.one (.cell 4 62) _ rfl (.cell 4 _ _ rfl rfl ae ae)⟩
theorem AY(u v:Int)(hu:Hf u)(hv:Hf v):Fn Tryz.prog 84 [.nm u,.nm v] (.nm (u*v)):=by
 have D1:=fE hu;have D2:=fE hv;unfold Hf at hu hv;have hp:=Ke u.natAbs v.natAbs;have T:=vS (hd u.natAbs) (hd v.natAbs) (fw _) (fw _) (by omega) (by omega);rw[fi,fi]at T;have M:=gQ (s:=!(decide (u<0)==decide (v<0))) (n:=u.natAbs*v.natAbs) (z:=u*v) (by omega) (by
  have:=Dg.wT (decide (u<0)) (decide (v<0)) u.natAbs v.natAbs;rw[fB,fB]at this;exact this)
 refine bn Tryz.func84 ae rfl rfl rfl fun X0=>?_;simp only[aE]
 (repeat(first|refine gk fun K hK=>?_|refine zs2 ?_));refine vf ?_;(repeat(first|refine gk fun K hK=>?_|refine zs2 ?_));(refine zs70 ?_;refine vE ?_;refine bp ?_;refine vE ?_;refine bp ?_;refine vB ?_;refine bp ?_;refine od ?_;refine bp ?_;refine od ?_;refine gT ?_;refine gT ?_;refine sZ ?_;refine di ?_);(repeat(first|refine gk fun K hK=>?_|refine zs2 ?_))
 exact⟨_,aG (k:=4) bc bJ bI,.one (.cell 4 62) _ rfl (.cell 4 _ _ rfl rfl ae ae)⟩
theorem Hf.sub'{u v:Int}(hu:(hd u.natAbs).length<=199999999)(hv:(hd v.natAbs).length<=199999999):Hf (u-v):=by
 unfold Hf;have h1:=wX u.natAbs v.natAbs;have h2:=il (show(u-v).natAbs<=u.natAbs+v.natAbs by omega);omega
theorem Bk(u v:Int)(hu:(hd u.natAbs).length<=199999999)(hv:(hd v.natAbs).length<=199999999):Fn Tryz.prog 147 [.nm u,.nm v] (zI (sgn (u-v))):=by
 have A:=GX u v (by unfold Hf;omega) (by unfold Hf;omega);have B:=oB (u-v) (Hf.sub' hu hv);refine bn Tryz.func147 ae rfl rfl rfl fun X0=>?_;simp only[aE]
 (repeat(first|refine gk fun K hK=>?_|refine zs2 ?_));(refine gar ?_;refine gU ?_;refine gU ?_;refine kF ?_;refine af ?_);(repeat(first|refine gk fun K hK=>?_|refine zs2 ?_));(refine gar ?_;refine br ?_;refine br ?_;refine jN ?_;refine cZ ?_;refine zs6 ?_;refine af ?_);(repeat(first|refine gk fun K hK=>?_|refine zs2 ?_))
 exact⟨_,Sh.refl,.one (.tmp 4) _ rfl (.tmp 4 rfl)⟩
end DW
end
section
open Go.RowKit
namespace DW
theorem sw:hd 1=[1]:=by
 have:=Dg.xx (b:=65536) (l:=[1]) (by decide) ⟨fun x hx=>by rw[List.mem_singleton.1 hx];decide,by decide⟩;rw[BX]at this;exact this
set_option maxRecDepth 20000
set_option maxHeartbeats 1000000
theorem xu(u v:Int)(hu:Hf u)(hv:Hf v)(hv0:v≠0):Fn Tryz.prog 148 [.nm u,.nm v] (.tp [.nm (u/v),.nm (u%v),zI 0]):=by
 have D1:=fE hu;have D2:=fE hv;unfold Hf at hu hv;have hn0:0<v.natAbs:=by omega
 have hl0:(hd v.natAbs).length≠0:=fun e=>by have:=(kR _).1 e;omega
 have DV:=Dt u.natAbs v.natAbs (by omega) (by omega) hn0;have I:=Dg.C6 (s:=decide (u<0)) (t:=decide (v<0)) (m:=u.natAbs) (n:=v.natAbs) hn0;rw[fB,fB]at I;have hm:=il (Nat.le_of_lt (Nat.mod_lt u.natAbs hn0));have hq:=il (Nat.div_le_self u.natAbs v.natAbs);have hr0:(hd (u.natAbs%v.natAbs)).length=0↔u.natAbs%v.natAbs=0:=kR _;refine bn Tryz.func148 ae rfl rfl rfl fun X0=>?_;simp only[aE]
 (repeat(first|refine gk fun K hK=>?_|refine zs2 ?_));(refine gar ?_;refine gU ?_;refine gU ?_;refine zs76 ?_;(refine kE (k:=5) (z:=(.agg #[.bool false,.slice none 0 0])) (d:=(.nm 0)) rfl rfl rfl rfl rfl ae aa aa dL aa aa bZ ?_);refine kF ?_;refine af ?_);(repeat(first|refine gk fun K hK=>?_|refine zs2 ?_));(refine gar ?_;refine br ?_;refine cZ ?_;refine zs6 ?_;refine af ?_);(repeat(first|refine gk fun K hK=>?_|refine zs2 ?_));refine rl ?_;(repeat(first|refine gk fun K hK=>?_|refine zs2 ?_))
 refine az ?_
 (repeat(first|refine gk fun K hK=>?_|refine zs2 ?_));(refine gar ?_;refine br ?_;refine cZ ?_;refine zs4 ?_;refine jN ?_;refine zs4 ?_;refine ir ?_;refine ir ?_;refine zs6 ?_;refine zs6 ?_;refine af ?_);(repeat(first|refine gk fun K hK=>?_|refine zs2 ?_))
 by_cases hneg:u<0
 ·by_cases hr:u.natAbs%v.natAbs=0
  ·obtain⟨e1,e2⟩:=I.1 (.inr hr);have hr':=hr0.2 hr;have M1:=gQ (s:=!(decide (u<0)==decide (v<0))) (n:=u.natAbs/v.natAbs) (z:=u/v) (by omega) e1.symm;have M2:=gQ (s:=false) (n:=u.natAbs%v.natAbs) (z:=u%v) (by omega) (by rw[e2,iv_f]);have hd1:decide (u<0)=true:=decide_eq_true hneg
   (repeat(first|refine gk fun K hK=>?_|refine zs2 ?_));refine zW ?_;(repeat(first|refine gk fun K hK=>?_|refine zs2 ?_))
   refine az ?_
   (repeat(first|refine gk fun K hK=>?_|refine zs2 ?_));refine zV ?_;(repeat(first|refine gk fun K hK=>?_|refine zs2 ?_))
   exact⟨_,(aG (k:=4) bc bJ bI).trans (aG (k:=5) bc bJ bI),.three (.cell 4 62) (.cell 5 62) (.tmp 6) _ _ _ rfl (.cell 4 _ _ rfl rfl ae ae) (.cell 5 _ _ rfl rfl ae ae) (.tmp 6 rfl)⟩
  ·obtain⟨e1,e2⟩:=I.2 (decide_eq_true hneg) (by omega);have hr':(hd (u.natAbs%v.natAbs)).length≠0:=fun e=>hr (hr0.1 e);have hq2:=wX (u.natAbs/v.natAbs) 1;rw[sw,List.length_singleton]at hq2;have PL:=yD (u.natAbs/v.natAbs) 1 (by omega) (by rw[sw];simp);rw[sw]at PL;have MI:=nD v.natAbs (u.natAbs%v.natAbs) (by omega) (Nat.le_of_lt (Nat.mod_lt _ hn0));have hm2:=il (show v.natAbs-u.natAbs%v.natAbs<=v.natAbs by omega);have M1:=gQ (s:=!(decide (u<0)==decide (v<0))) (n:=u.natAbs/v.natAbs+1) (z:=u/v) (by omega) e1.symm;have M2:=gQ (s:=false) (n:=v.natAbs-u.natAbs%v.natAbs) (z:=u%v) (by omega) (by rw[e2,iv_f]);have hd1:decide (u<0)=true:=decide_eq_true hneg
   (repeat(first|refine gk fun K hK=>?_|refine zs2 ?_));refine zW ?_;(repeat(first|refine gk fun K hK=>?_|refine zs2 ?_))
   refine av ?_
   (repeat(first|refine gk fun K hK=>?_|refine zs2 ?_));(refine gar ?_;refine zs4 ?_;(refine aL1 rfl rfl rfl (by(apply Hc;(exact rfl);(focus((first|exact op_zero|exact rfl)));(exact rfl);(focus((first|exact fb|exact eY|exact eZ|exact wd_pt|exact rfl)));(kernel_rfl);(kernel_rfl);(exact rfl);(exact rfl))) ?_);refine jN ?_;refine zs4 ?_;refine zs4 ?_;refine jN ?_;refine zs6 ?_;refine zs6 ?_;refine af ?_);(repeat(first|refine gk fun K hK=>?_|refine zs2 ?_));refine zV ?_;(repeat(first|refine gk fun K hK=>?_|refine zs2 ?_))
   exact⟨_,(aG (k:=4) bc bJ bI).trans (aG (k:=5) bc bJ bI),.three (.cell 4 62) (.cell 5 62) (.tmp 6) _ _ _ rfl (.cell 4 _ _ rfl rfl ae ae) (.cell 5 _ _ rfl rfl ae ae) (.tmp 6 rfl)⟩
 ·have hd1:decide (u<0)=false:=decide_eq_false hneg;obtain⟨e1,e2⟩:=I.1 (.inl hd1);have M1:=gQ (s:=!(decide (u<0)==decide (v<0))) (n:=u.natAbs/v.natAbs) (z:=u/v) (by omega) e1.symm;have M2:=gQ (s:=false) (n:=u.natAbs%v.natAbs) (z:=u%v) (by omega) (by rw[e2,iv_f])
  (repeat(first|refine gk fun K hK=>?_|refine zs2 ?_));refine zW ?_;(repeat(first|refine gk fun K hK=>?_|refine zs2 ?_))
  refine az ?_
  (repeat(first|refine gk fun K hK=>?_|refine zs2 ?_));refine zV ?_;(repeat(first|refine gk fun K hK=>?_|refine zs2 ?_))
  exact⟨_,(aG (k:=4) bc bJ bI).trans (aG (k:=5) bc bJ bI),.three (.cell 4 62) (.cell 5 62) (.tmp 6) _ _ _ rfl (.cell 4 _ _ rfl rfl ae ae) (.cell 5 _ _ rfl rfl ae ae) (.tmp 6 rfl)⟩
end DW
end
end Go.Proofs.YtcgjmdpcplhanaaGreat
