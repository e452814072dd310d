/- Lemmas for the law: E7 E8 E9 -/
import Derived.Test.YtcgjmdpcplhanaaGreatZg4
namespace Go.Proofs.YtcgjmdpcplhanaaGreat
section
theorem Aq{p q:Prop}(h:q)(f:Wq q->p:=by(intro hW;((refine gar ?_;refine mO ?_;refine aS ?_;refine zs4 ?_;refine zs8 ?_;refine jH ?_;refine jG ?_;refine gB ?_;refine af ?_));exact hW.out)):p:=f ⟨h⟩
theorem zs78{p q:Prop}(h:q)(f:Wq q->p:=by(intro hW;((refine dK (k:=5) (z:=(.agg #[.bool false,.slice none 0 0])) (d:=(.nm 0)) rfl rfl rfl rfl rfl aa ae ae cE ae ae bD ?_));exact hW.out)):p:=f ⟨h⟩
theorem zs80{p q:Prop}(h:q)(f:Wq q->p:=by(intro hW;(refine aL1 rfl rfl rfl (by(apply jo;(exact rfl);(exact gg);(focus((apply au;(conv=>lhs;whnf);(first|done|exact rfl))));(exact rfl);(exact rfl);(assumption);(exact rfl))) ?_);exact hW.out)):p:=f ⟨h⟩
theorem eA{p q:Prop}(h:q)(f:Wq q->p:=by(intro hW;(refine aL1 rfl rfl rfl ou ?_);exact hW.out)):p:=f ⟨h⟩
theorem Ap{p q:Prop}(h:q)(f:Wq q->p:=by(intro hW;((refine gar ?_;refine mO ?_;refine aS ?_;refine mO ?_;refine aS ?_;refine zs54 ?_;refine zs4 ?_;refine eA ?_;refine zs4 ?_;refine zs80 ?_;refine dC ?_;refine dC ?_;refine fG ?_;refine af ?_));exact hW.out)):p:=f ⟨h⟩
theorem zs71{p q:Prop}(h:q)(f:Wq q->p:=by(intro hW;(refine aL1 rfl rfl rfl zb3 ?_);exact hW.out)):p:=f ⟨h⟩
theorem zb39{p:Prop}(h:p:=by(apply xC;(exact rfl);(focus((apply au;(conv=>lhs;whnf);(first|done|exact rfl))));(exact rfl))):p:=h
theorem dA{p q:Prop}(h:q)(f:Wq q->p:=by(intro hW;(refine aL1 rfl rfl rfl zb39 ?_);exact hW.out)):p:=f ⟨h⟩
theorem gP{p q:Prop}(h:q)(f:Wq q->p:=by(intro hW;((refine gar ?_;refine zs4 ?_;refine zs4 ?_;refine lO ?_;refine af ?_));exact hW.out)):p:=f ⟨h⟩
theorem zs75{p q:Prop}(h:q)(f:Wq q->p:=by(intro hW;(refine aL1 rfl rfl rfl (by(apply jo;(exact rfl);(focus((apply au;(conv=>lhs;whnf);(first|done|exact rfl))));(focus((apply au;(conv=>lhs;whnf);(first|done|exact rfl))));(exact rfl);(exact rfl);(focus((first|exact TIMES g (by omega))));(exact rfl))) ?_);exact hW.out)):p:=f ⟨h⟩
theorem GV{p q:Prop}(h:q)(f:Wq q->p:=by(intro hW;((refine gar ?_;refine zs4 ?_;refine zs4 ?_;refine zs4 ?_;refine jI ?_;refine zs75 ?_;refine eA ?_;refine af ?_));exact hW.out)):p:=f ⟨h⟩
theorem zs76{p q:Prop}(h:q)(f:Wq q->p:=by(intro hW;((refine dK (k:=4) (z:=(.agg #[.bool false,.slice none 0 0])) (d:=(.nm 0)) rfl rfl rfl rfl rfl aa ae ae cE ae ae bD ?_));exact hW.out)):p:=f ⟨h⟩
theorem vo{p q:Prop}(h:q)(f:Wq q->p:=by(intro hW;((refine gar ?_;refine aS ?_;refine cO ?_;refine zs6 ?_;refine af ?_));exact hW.out)):p:=f ⟨h⟩
theorem Ar{p q:Prop}(h:q)(f:Wq q->p:=by(intro hW;((refine gar ?_;refine zs4 ?_;refine zs5 ?_;refine td ?_;refine af ?_));exact hW.out)):p:=f ⟨h⟩
theorem fC{p q:Prop}(h:q)(f:Wq q->p:=by(intro hW;((refine gar ?_;refine zs4 ?_;refine zs6 ?_;refine af ?_));exact hW.out)):p:=f ⟨h⟩
theorem px{p q:Prop}(h:q)(f:Wq q->p:=by(intro hW;((refine gar ?_;refine gA ?_;refine gA ?_;refine zs76 ?_;refine af ?_));exact hW.out)):p:=f ⟨h⟩
theorem zb13{p:Prop}(h:p:=by(first|(apply cg;(exact rfl);(focus((apply au;(conv=>lhs;whnf);(first|done|exact rfl))));(focus((apply au;(conv=>lhs;whnf);(first|done|exact rfl))));(exact rfl))|(apply Ih;(exact rfl);(focus((apply au;(conv=>lhs;whnf);(first|done|exact rfl))));(focus((apply au;(conv=>lhs;whnf);(first|done|exact rfl))));(kernel_rfl)))):p:=h
theorem zs77{p q:Prop}(h:q)(f:Wq q->p:=by(intro hW;(refine aL1 rfl rfl rfl zb13 ?_);exact hW.out)):p:=f ⟨h⟩
theorem GU{p q:Prop}(h:q)(f:Wq q->p:=by(intro hW;((refine gar ?_;refine mO ?_;refine aS ?_;refine mO ?_;refine aS ?_;refine zs77 ?_;refine af ?_));exact hW.out)):p:=f ⟨h⟩
theorem zs73{p q:Prop}(h:q)(f:Wq q->p:=by(intro hW;((refine kg (i:=i) rfl rfl rfl bz bz aZ ae lR ae cE ae aa lS ?_));exact hW.out)):p:=f ⟨h⟩
theorem GW{p q:Prop}(h:q)(f:Wq q->p:=by(intro hW;((refine gar ?_;refine zs4 ?_;refine zs4 ?_;refine zs4 ?_;refine dB ?_;refine zs73 ?_;refine af ?_));exact hW.out)):p:=f ⟨h⟩
theorem Au{p q:Prop}(h:q)(f:Wq q->p:=by(intro hW;((refine zs35 ?_;refine bq ?_;refine kj ?_;refine bq ?_;refine kj ?_;refine ko ?_;refine ko ?_;refine cP ?_));exact hW.out)):p:=f ⟨h⟩
theorem As{p q:Prop}(h:q)(f:Wq q->p:=by(intro hW;((refine zs40 ?_;refine og ?_;refine bq ?_;refine aR ?_;refine aR ?_;refine gy ?_;refine gy ?_;refine te ?_;refine cP ?_));exact hW.out)):p:=f ⟨h⟩
theorem zU{p q:Prop}(h:q)(f:Wq q->p:=by(intro hW;(refine aL1 rfl rfl rfl zb0 ?_);exact hW.out)):p:=f ⟨h⟩
end
section
open Go.RowKit
namespace DW
theorem Ce(b x:Nat):Dg.vl b [x]=x:=by simp[Dg.vl]
set_option maxRecDepth 20000
set_option maxHeartbeats 1000000
theorem uZ(a b:Nat)(ha:(hd a).length<=300000000)(hb:(hd b).length<=300000000)(hb0:0<b):Fn Tryz.prog 168 [dN (hd a),dN (hd b)] (.tp [dN (hd (a/b)),dN (hd (a%b))]):=by
 refine aP Tryz.func168 aa rfl rfl rfl fun X0=>?_;simp only[aD];obtain⟨L,hL⟩:∃L,L=(hd a).length:=⟨_,rfl⟩;have hLc:((hd a).length:Int)=(L:Int):=by omega
 (repeat(first|refine gk fun K hK=>?_|refine zs2 ?_));(refine gar ?_;refine zs3 ?_;refine zs3 ?_;refine af ?_);(repeat(first|refine gk fun K hK=>?_|refine zs2 ?_));(refine gar ?_;refine zs4 ?_;refine zs5 ?_;(refine Ew (k:=14) (T:=Tryz.prog.elem 40) (zv:=(.int .i64 0)) (d0:=(.sc (.int .i64 0))) (wd:=1) rfl rfl rfl rfl bz bz aa aa ae ae ae ae ae (by omega) zb59 ae bD ?_);refine zs6 ?_;refine af ?_);(repeat(first|refine gk fun K hK=>?_|refine zs2 ?_));refine bK ?_;(repeat(first|refine gk fun K hK=>?_|refine zs2 ?_));refine Aw ?_;(repeat(first|refine gk fun K hK=>?_|refine zs2 ?_))
 (refine ak (gT (t:=7) (wd:=1) cr) ?_)
 (refine ak (ai (sl':=[(0,dN (hd a)),(1,dN (hd b)),(6,.own 14),(7,.ls 1 []),(8,zI ((hd a).length-1))]) (ow':=[(14,⟨3,1,List.replicate L (zI 0)⟩)]) an aw) ?_)
 refine aE (fun r s=>∃q m,r<=L/\q.length=L/\Dg.dig 65536 q/\m<b/\Dg.vl 65536 ((hd a).drop r)=b*Dg.vl 65536 (q.drop r)+m/\s=⟨[(0,dN (hd a)),(1,dN (hd b)),(6,.own 14),(7,dN (hd m)),(8,zI (r-1))],[(14,⟨3,1,q.map hN⟩)]⟩) (m:=L) ⟨List.replicate L 0,0,Nat.le_refl _,by simp,Dg.dV (by decide) _,hb0,by rw[List.drop_of_length_le (by omega),List.drop_of_length_le (by simp)];simp[Dg.vl],by rw[List.map_replicate,<-hL,show hd 0=[]from List.length_eq_zero_iff.1 ((iK 0).2 rfl)];rfl⟩ fun r s hs=>?_;obtain⟨q,m,hr,hq,hdq,hm,hv,rfl⟩:=hs;by_cases hr0:r=0
 ·subst hr0;rw[List.drop_zero,List.drop_zero,eZ]at hv;have e1:a/b=Dg.vl 65536 q:=by rw[hv,Nat.mul_add_div hb0,Nat.div_eq_of_lt hm,Nat.add_zero]
  have e2:a%b=m:=by rw[hv,Nat.mul_add_mod,Nat.mod_eq_of_lt hm]
  have T:=rF (l:=q) (by omega) hdq e1.symm;clear hv
  (repeat(first|refine gk fun K hK=>?_|refine zs2 ?_));refine eM ?_;(repeat(first|refine gk fun K hK=>?_|refine zs2 ?_))
  refine az ?_
  (repeat(first|refine gk fun K hK=>?_|refine zs2 ?_))
  refine ak (aF (k:=14) aZ bB bA) ?_
  (refine gar ?_;refine zs4 ?_;refine cO ?_;refine zs4 ?_;refine zs6 ?_;refine zs6 ?_;refine af ?_)
  (repeat(first|refine gk fun K hK=>?_|refine zs2 ?_))
  rw[e2];exact⟨_,Sh.refl,.two (.tmp 4) (.tmp 5) _ _ rfl (.tmp 4 rfl) (.tmp 5 rfl)⟩
 ·obtain⟨i,rfl⟩:∃i,r=i+1:=⟨r-1,by omega⟩;have hi:i<(hd a).length:=by omega
  have hiq:i<q.length:=by omega
  have STEP:=Dg.rN (B:=65536) (a:=hd a) (o:=q) (i:=i) (d:=b) (r:=m) hi hiq hv;clear hv;have hx:=kE hi;have hxl:(hd a).getD i 0<65536:=Dg.aY (fj a) (by decide) i;obtain⟨x,hxd⟩:∃x,x=(hd a).getD i 0:=⟨_,rfl⟩;rw[<-hxd]at hx hxl STEP;have hc:((i+1:Nat):Int)-1=(i:Int):=by omega
  have hml:(hd m).length<=(hd b).length:=fo (by omega);have T:=rF (l:=x::hd m) (by simp only[List.length_cons];omega) (fun y hy=>by
   rcases List.mem_cons.1 hy with rfl|h
   ·exact hxl
   ·exact fj m y h) (n:=m*65536+x) (by rw[Dg.cF,eZ];omega)
  obtain⟨R,hR⟩:∃R,R=m*65536+x:=⟨_,rfl⟩;rw[<-hR]at T STEP;have hRb:R/b<65536:=by
   rw[Nat.div_lt_iff_lt_mul hb0];have:=Nat.mul_le_mul_right 65536 (show m+1<=b by omega);rw[Nat.mul_comm 65536 b];omega
  have hRl:(hd R).length<=(hd b).length+1:=eK (by
   have h1:=lC b;rw[Nat.pow_succ];have h4:=Nat.mul_le_mul_right 65536 (show m+1<=b by omega);have h5:=Nat.mul_le_mul_right 65536 (Nat.le_of_lt h1);omega)
  have TIMES:∀g:Nat,g<65536->Fn Tryz.prog 155 [dN (hd b),dN [g]] (dN (hd (b*g))):=fun g hg=>by
   have:=vZ (hd b) [g] (fj b) (fun y hy=>by rw[List.mem_singleton.1 hy];exact hg) (by omega) (by simp);rwa[eZ,Ce]at this
  have hprod:∀g,g<65536->(hd (b*g)).length<=(hd b).length+1:=fun g hg=>eK (by
   have h1:=lC b;rw[Nat.pow_succ];have h4:b*g<=b*65536:=Nat.mul_le_mul_left b (by omega);have h5:=Nat.mul_lt_mul_of_pos_right h1 (show 0<65536 by decide);omega)
  have hml2:(hd m).length<=300000000:=by omega
  clear hml hxd
  (repeat(first|refine gk fun K hK=>?_|refine zs2 ?_));refine eM ?_;(repeat(first|refine gk fun K hK=>?_|refine zs2 ?_))
  refine av ?_
  (repeat(first|refine gk fun K hK=>?_|refine zs2 ?_));(refine gar ?_;refine zs4 ?_;refine zs4 ?_;refine zs71 ?_;refine zU ?_;(refine Lh (k:=26) (T:=Tryz.prog.elem 40) rfl rfl rfl rfl bz ae cE ae aa aa ae ae ae bD ?_);refine zs4 ?_;refine ta ?_;refine aL_sh (aF (k:=26) aZ bB bA) ?_;refine cO ?_;refine zs6 ?_;refine af ?_);(repeat(first|refine gk fun K hK=>?_|refine zs2 ?_));(refine gar ?_;refine fG ?_;refine fG ?_;refine af ?_);(repeat(first|refine gk fun K hK=>?_|refine zs2 ?_))
  (refine ak (ai (sl':=[(0,dN (hd a)),(1,dN (hd b)),(6,.own 14),(7,dN (hd R)),(8,zI (i:Nat)),(9,zI ((0:Nat):Int)),(10,zI ((65535:Nat):Int))]) (ow':=[(14,⟨3,1,q.map hN⟩)]) an aw) ?_)
  refine aE (fun r s=>∃lo hi,r=hi-lo/\lo<=hi/\hi<65536/\b*lo<=R/\R<b*(hi+1)/\s=⟨[(0,dN (hd a)),(1,dN (hd b)),(6,.own 14),(7,dN (hd R)),(8,zI (i:Nat)),(9,zI (lo:Nat)),(10,zI (hi:Nat))],[(14,⟨3,1,q.map hN⟩)]⟩) (m:=65535) ⟨0,65535,rfl,by omega,by omega,by omega,by
   rw[Nat.div_lt_iff_lt_mul hb0]at hRb;rw[Nat.mul_comm];exact hRb,rfl⟩ fun r s hs=>?_
  obtain⟨lo,hi',rfl,h1,h2,h3,h4,rfl⟩:=hs;by_cases hlh:lo=hi'
  ·subst hlh;have e1:R/b=lo:=by
    apply Nat.le_antisymm
    ·have:=(Nat.div_lt_iff_lt_mul hb0).2 (by rw[Nat.mul_comm];exact h4);omega
    ·exact(Nat.le_div_iff_mul_le hb0).2 (by rw[Nat.mul_comm];exact h3)
   have e2:R%b=R-b*lo:=by rw[Nat.mod_def,e1]
   have hmb:R%b<b:=Nat.mod_lt _ hb0;rw[e1]at STEP;have MIN:=nE R (b*lo) (by omega) h3;rw[<-e2]at MIN;have hlen:(q.set i lo).length=L:=by rw[List.length_set];exact hq
   have hdig:=Dg.cW hdq (j:=i) (show lo<65536 by omega);have hms:=map_set q i lo
   (repeat(first|refine gk fun K hK=>?_|refine zs2 ?_));refine gP ?_;(repeat(first|refine gk fun K hK=>?_|refine zs2 ?_))
   refine az ?_
   (repeat(first|refine gk fun K hK=>?_|refine zs2 ?_));refine GW ?_;(repeat(first|refine gk fun K hK=>?_|refine zs2 ?_));(refine gar ?_;refine zs4 ?_;refine zs4 ?_;refine zs4 ?_;refine jI ?_;(refine aL1 rfl rfl rfl (by(apply jo;(exact rfl);(focus((apply au;(conv=>lhs;whnf);(first|done|exact rfl))));(focus((apply au;(conv=>lhs;whnf);(first|done|exact rfl))));(exact rfl);(exact rfl);(focus((first|exact TIMES lo (by omega))));(exact rfl))) ?_);refine eA ?_;refine zs6 ?_;refine af ?_);(repeat(first|refine gk fun K hK=>?_|refine zs2 ?_));refine pA ?_;(repeat(first|refine gk fun K hK=>?_|refine zs2 ?_))
   simp only[nx,inB];exact⟨i,_,by omega,(ai (sl':=[(0,dN (hd a)),(1,dN (hd b)),(6,.own 14),(7,dN (hd (R%b))),(8,zI ((i:Int)-1))]) (ow':=[(14,⟨3,1,(q.map hN).set i (hN lo)⟩)]) an aw),q.set i lo,R%b,by omega,hlen,hdig,hmb,STEP,by rw[hms]⟩
  ·obtain⟨g,hg⟩:∃g,g=(lo+hi'+1)/2:=⟨_,rfl⟩;have hg1:lo<g:=by omega
   have hg2:g<=hi':=by omega
   have LESS:=Dt R (b*g) (by omega) (by have:=hprod g (by omega);omega)
   (repeat(first|refine gk fun K hK=>?_|refine zs2 ?_));refine gP ?_;(repeat(first|refine gk fun K hK=>?_|refine zs2 ?_))
   refine av ?_
   (repeat(first|refine gk fun K hK=>?_|refine zs2 ?_));(refine gar ?_;refine zs4 ?_;refine zs4 ?_;refine od ?_;refine zY ?_;refine zs52 ?_;refine zs6 ?_;refine af ?_);(repeat(first|refine gk fun K hK=>?_|refine zs2 ?_))
   (refine ak (ai (sl':=[(0,dN (hd a)),(1,dN (hd b)),(6,.own 14),(7,dN (hd R)),(8,zI (i:Nat)),(9,zI (lo:Nat)),(10,zI (hi':Nat)),(11,zI (g:Nat))]) (ow':=[(14,⟨3,1,q.map hN⟩)]) an aw) ?_)
   by_cases hlt:R<b*g
   ·(repeat(first|refine gk fun K hK=>?_|refine zs2 ?_));refine GV ?_;(repeat(first|refine gk fun K hK=>?_|refine zs2 ?_))
    refine av ?_
    (repeat(first|refine gk fun K hK=>?_|refine zs2 ?_));refine pA ?_;(repeat(first|refine gk fun K hK=>?_|refine zs2 ?_))
    simp only[nx,inB];exact⟨g-1-lo,_,by omega,(ai (sl':=[(0,dN (hd a)),(1,dN (hd b)),(6,.own 14),(7,dN (hd R)),(8,zI (i:Nat)),(9,zI (lo:Nat)),(10,zI ((g-1:Nat):Int))]) (ow':=[(14,⟨3,1,q.map hN⟩)]) an aw),lo,g-1,rfl,by omega,by omega,h3,by rw[show g-1+1=g by omega];exact hlt,rfl⟩
   ·(repeat(first|refine gk fun K hK=>?_|refine zs2 ?_));refine GV ?_;(repeat(first|refine gk fun K hK=>?_|refine zs2 ?_))
    refine az ?_
    (repeat(first|refine gk fun K hK=>?_|refine zs2 ?_));refine fC ?_;(repeat(first|refine gk fun K hK=>?_|refine zs2 ?_))
    simp only[nx,inB];exact⟨hi'-g,_,by omega,(ai (sl':=[(0,dN (hd a)),(1,dN (hd b)),(6,.own 14),(7,dN (hd R)),(8,zI (i:Nat)),(9,zI (g:Nat)),(10,zI (hi':Nat))]) (ow':=[(14,⟨3,1,q.map hN⟩)]) an aw),g,hi',rfl,by omega,by omega,by omega,h4,rfl⟩
end DW
end
section
open Go.RowKit
namespace DW
theorem KQ(a b:Nat):(hd (a*b)).length<=(hd a).length+(hd b).length:=by
 by_cases h0:b=0
 ·subst h0;rw[Nat.mul_zero,(iK 0).2 rfl];omega
 apply eK;rw[Nat.pow_add];exact Nat.mul_lt_mul_of_lt_of_le (lC a) (Nat.le_of_lt (lC b)) (Nat.pow_pos (by decide))
theorem xo(a b:Nat):(hd (a+b)).length<=max (hd a).length (hd b).length+1:=by
 apply eK;rw[Nat.pow_succ];have h1:(65536:Nat)^(hd a).length<=65536^max (hd a).length (hd b).length:=Nat.pow_le_pow_right (by decide) (Nat.le_max_left _ _);have h2:(65536:Nat)^(hd b).length<=65536^max (hd a).length (hd b).length:=Nat.pow_le_pow_right (by decide) (Nat.le_max_right _ _);have:=lC a;have:=lC b;omega
theorem fm(z:Int):Dg.iv (decide (z<0)) z.natAbs=z:=sy
theorem Br(n:Nat):Dg.iv false n=(n:Int):=rfl
set_option maxRecDepth 20000
set_option maxHeartbeats 1000000
theorem BU(u v:Int)(hu:Hf u)(hv:Hf v):Fn Tryz.prog 83 [.nm u,.nm v] (.nm (u+v)):=by
 have D1:=dG hu;have D2:=dG hv;unfold Hf at hu hv;have hp:=xo u.natAbs v.natAbs;refine aP Tryz.func83 aa rfl rfl rfl fun X0=>?_;simp only[aD];by_cases hs:decide (u<0)=decide (v<0)
 ·have hb:(decide (u<0)==decide (v<0))=true:=by rw[hs,beq_self_eq_true]
  have M:=gh (s:=decide (u<0)) (n:=u.natAbs+v.natAbs) (z:=u+v) (by omega) (by
   rw[Dg.zo]
   conv=>lhs;rhs;rw[hs]
   rw[fm,fm])
  have PL:=yS u.natAbs v.natAbs (by omega) (by omega)
  (repeat(first|refine gk fun K hK=>?_|refine zs2 ?_));refine px ?_;(repeat(first|refine gk fun K hK=>?_|refine zs2 ?_));refine Au ?_;(repeat(first|refine gk fun K hK=>?_|refine zs2 ?_));refine GU ?_;(repeat(first|refine gk fun K hK=>?_|refine zs2 ?_))
  refine av ?_
  (repeat(first|refine gk fun K hK=>?_|refine zs2 ?_));refine As ?_;(repeat(first|refine gk fun K hK=>?_|refine zs2 ?_))
  exact⟨_,aF (k:=4) aZ bB bA,.one (.cell 4 62) _ rfl (.cell 4 _ _ rfl rfl aa aa)⟩
 ·have hb:(decide (u<0)==decide (v<0))=false:=by rw[beq_eq_false_iff_ne];exact hs
  have LE:=Dt u.natAbs v.natAbs (by omega) (by omega)
  (repeat(first|refine gk fun K hK=>?_|refine zs2 ?_));refine px ?_;(repeat(first|refine gk fun K hK=>?_|refine zs2 ?_));refine Au ?_;(repeat(first|refine gk fun K hK=>?_|refine zs2 ?_));refine GU ?_;(repeat(first|refine gk fun K hK=>?_|refine zs2 ?_))
  refine az ?_
  (repeat(first|refine gk fun K hK=>?_|refine zs2 ?_));(refine gar ?_;refine zs4 ?_;refine zs4 ?_;refine eA ?_;refine af ?_);(repeat(first|refine gk fun K hK=>?_|refine zs2 ?_))
  by_cases hl:u.natAbs<v.natAbs
  ·have MI:=nE v.natAbs u.natAbs (by omega) (by omega);have hm:=fo (show v.natAbs-u.natAbs<=v.natAbs by omega);have M:=gh (s:=decide (v<0)) (n:=v.natAbs-u.natAbs) (z:=u+v) (by omega) (by
    rw[Dg.sA hs (by omega),fm,fm])
   refine av ?_
   (repeat(first|refine gk fun K hK=>?_|refine zs2 ?_));refine As ?_;(repeat(first|refine gk fun K hK=>?_|refine zs2 ?_))
   exact⟨_,aF (k:=4) aZ bB bA,.one (.cell 4 62) _ rfl (.cell 4 _ _ rfl rfl aa aa)⟩
  ·have MI:=nE u.natAbs v.natAbs (by omega) (by omega);have hm:=fo (show u.natAbs-v.natAbs<=u.natAbs by omega);have M:=gh (s:=decide (u<0)) (n:=u.natAbs-v.natAbs) (z:=u+v) (by omega) (by
    rw[Dg.sB hs (by omega),fm,fm])
   refine az ?_
   (repeat(first|refine gk fun K hK=>?_|refine zs2 ?_));refine As ?_;(repeat(first|refine gk fun K hK=>?_|refine zs2 ?_))
   exact⟨_,aF (k:=4) aZ bB bA,.one (.cell 4 62) _ rfl (.cell 4 _ _ rfl rfl aa aa)⟩
theorem Hr(u v:Int)(hu:Hf u)(hv:Hf v):Fn Tryz.prog 187 [.nm u,.nm v] (.nm (u-v)):=by
 have N:=Hw v hv;have A:=BU u (-v) hu hv.neg;rw[<-Int.sub_eq_add_neg]at A;refine aP Tryz.func187 aa rfl rfl rfl fun X0=>?_;simp only[aD]
 (repeat(first|refine gk fun K hK=>?_|refine zs2 ?_));refine px ?_;(repeat(first|refine gk fun K hK=>?_|refine zs2 ?_));(((first|(apply ao 4;(focus kernel_rfl);(decide+kernel))|(apply ao 3;(focus kernel_rfl);(decide+kernel))|(apply ao 2;(focus kernel_rfl);(decide+kernel))|(apply ao 1;(focus kernel_rfl);(decide+kernel)));simp only[List.take_succ_cons,List.take_zero,List.drop_succ_cons,List.drop_zero]);refine bq ?_;refine bq ?_;refine kj ?_;refine gy ?_;refine te ?_;refine cP ?_);(repeat(first|refine gk fun K hK=>?_|refine zs2 ?_))
 exact⟨_,aF (k:=4) aZ bB bA,.one (.cell 4 62) _ rfl (.cell 4 _ _ rfl rfl aa aa)⟩
theorem vA(u v:Int)(hu:Hf u)(hv:Hf v):Fn Tryz.prog 84 [.nm u,.nm v] (.nm (u*v)):=by
 have D1:=dG hu;have D2:=dG hv;unfold Hf at hu hv;have hp:=KQ u.natAbs v.natAbs;have T:=vZ (hd u.natAbs) (hd v.natAbs) (fj _) (fj _) (by omega) (by omega);rw[eZ,eZ]at T;have M:=gh (s:=!(decide (u<0)==decide (v<0))) (n:=u.natAbs*v.natAbs) (z:=u*v) (by omega) (by
  have:=Dg.xh (decide (u<0)) (decide (v<0)) u.natAbs v.natAbs;rw[fm,fm]at this;exact this)
 refine aP Tryz.func84 aa rfl rfl rfl fun X0=>?_;simp only[aD]
 (repeat(first|refine gk fun K hK=>?_|refine zs2 ?_));refine px ?_;(repeat(first|refine gk fun K hK=>?_|refine zs2 ?_));(refine zV ?_;refine og ?_;refine bq ?_;refine og ?_;refine bq ?_;refine sY ?_;refine bq ?_;refine kj ?_;refine bq ?_;refine kj ?_;refine gy ?_;refine gy ?_;refine te ?_;refine cP ?_);(repeat(first|refine gk fun K hK=>?_|refine zs2 ?_))
 exact⟨_,aF (k:=4) aZ bB bA,.one (.cell 4 62) _ rfl (.cell 4 _ _ rfl rfl aa aa)⟩
theorem Hf.sub'{u v:Int}(hu:(hd u.natAbs).length<=199999999)(hv:(hd v.natAbs).length<=199999999):Hf (u-v):=by
 unfold Hf;have h1:=xo u.natAbs v.natAbs;have h2:=fo (show(u-v).natAbs<=u.natAbs+v.natAbs by omega);omega
theorem BH(u v:Int)(hu:(hd u.natAbs).length<=199999999)(hv:(hd v.natAbs).length<=199999999):Fn Tryz.prog 147 [.nm u,.nm v] (zI (sgn (u-v))):=by
 have A:=Hr u v (by unfold Hf;omega) (by unfold Hf;omega);have B:=oE (u-v) (Hf.sub' hu hv);refine aP Tryz.func147 aa rfl rfl rfl fun X0=>?_;simp only[aD]
 (repeat(first|refine gk fun K hK=>?_|refine zs2 ?_));(refine gar ?_;refine gA ?_;refine gA ?_;refine fG ?_;refine af ?_);(repeat(first|refine gk fun K hK=>?_|refine zs2 ?_));(refine gar ?_;refine aS ?_;refine aS ?_;refine eA ?_;refine cO ?_;refine zs6 ?_;refine af ?_);(repeat(first|refine gk fun K hK=>?_|refine zs2 ?_))
 exact⟨_,Sh.refl,.one (.tmp 4) _ rfl (.tmp 4 rfl)⟩
end DW
end
section
open Go.RowKit
namespace DW
theorem sC:hd 1=[1]:=by
 have:=Dg.xF (b:=65536) (l:=[1]) (by decide) ⟨fun x hx=>by rw[List.mem_singleton.1 hx];decide,by decide⟩;rw[Ce]at this;exact this
set_option maxRecDepth 20000
set_option maxHeartbeats 1000000
theorem qZ(u v:Int)(hu:Hf u)(hv:Hf v)(hv0:v≠0):Fn Tryz.prog 148 [.nm u,.nm v] (.tp [.nm (u/v),.nm (u%v),zI 0]):=by
 have D1:=dG hu;have D2:=dG hv;unfold Hf at hu hv;have hn0:0<v.natAbs:=by omega
 have hl0:(hd v.natAbs).length≠0:=fun e=>by have:=(iK _).1 e;omega
 have DV:=uZ u.natAbs v.natAbs (by omega) (by omega) hn0;have I:=Dg.Dw (s:=decide (u<0)) (t:=decide (v<0)) (m:=u.natAbs) (n:=v.natAbs) hn0;rw[fm,fm]at I;have hm:=fo (Nat.le_of_lt (Nat.mod_lt u.natAbs hn0));have hq:=fo (Nat.div_le_self u.natAbs v.natAbs);have hr0:(hd (u.natAbs%v.natAbs)).length=0↔u.natAbs%v.natAbs=0:=iK _;refine aP Tryz.func148 aa rfl rfl rfl fun X0=>?_;simp only[aD]
 (repeat(first|refine gk fun K hK=>?_|refine zs2 ?_));(refine gar ?_;refine gA ?_;refine gA ?_;refine zs76 ?_;refine zs78 ?_;refine fG ?_;refine af ?_);(repeat(first|refine gk fun K hK=>?_|refine zs2 ?_));refine vo ?_;(repeat(first|refine gk fun K hK=>?_|refine zs2 ?_));refine Ar ?_;(repeat(first|refine gk fun K hK=>?_|refine zs2 ?_))
 refine az ?_
 (repeat(first|refine gk fun K hK=>?_|refine zs2 ?_));(refine gar ?_;refine aS ?_;refine cO ?_;refine zs4 ?_;refine eA ?_;refine zs4 ?_;refine dA ?_;refine dA ?_;refine zs6 ?_;refine zs6 ?_;refine af ?_);(repeat(first|refine gk fun K hK=>?_|refine zs2 ?_))
 by_cases hneg:u<0
 ·by_cases hr:u.natAbs%v.natAbs=0
  ·obtain⟨e1,e2⟩:=I.1 (.inr hr);have hr':=hr0.2 hr;have M1:=gh (s:=!(decide (u<0)==decide (v<0))) (n:=u.natAbs/v.natAbs) (z:=u/v) (by omega) e1.symm;have M2:=gh (s:=false) (n:=u.natAbs%v.natAbs) (z:=u%v) (by omega) (by rw[e2,Br]);have hd1:decide (u<0)=true:=decide_eq_true hneg
   (repeat(first|refine gk fun K hK=>?_|refine zs2 ?_));refine Aq ?_;(repeat(first|refine gk fun K hK=>?_|refine zs2 ?_))
   refine az ?_
   (repeat(first|refine gk fun K hK=>?_|refine zs2 ?_));refine Ap ?_;(repeat(first|refine gk fun K hK=>?_|refine zs2 ?_))
   exact⟨_,(aF (k:=4) aZ bB bA).trans (aF (k:=5) aZ bB bA),.three (.cell 4 62) (.cell 5 62) (.tmp 6) _ _ _ rfl (.cell 4 _ _ rfl rfl aa aa) (.cell 5 _ _ rfl rfl aa aa) (.tmp 6 rfl)⟩
  ·obtain⟨e1,e2⟩:=I.2 (decide_eq_true hneg) (by omega);have hr':(hd (u.natAbs%v.natAbs)).length≠0:=fun e=>hr (hr0.1 e);have hq2:=xo (u.natAbs/v.natAbs) 1;rw[sC,List.length_singleton]at hq2;have PL:=yS (u.natAbs/v.natAbs) 1 (by omega) (by rw[sC];simp);rw[sC]at PL;have MI:=nE v.natAbs (u.natAbs%v.natAbs) (by omega) (Nat.le_of_lt (Nat.mod_lt _ hn0));have hm2:=fo (show v.natAbs-u.natAbs%v.natAbs<=v.natAbs by omega);have M1:=gh (s:=!(decide (u<0)==decide (v<0))) (n:=u.natAbs/v.natAbs+1) (z:=u/v) (by omega) e1.symm;have M2:=gh (s:=false) (n:=v.natAbs-u.natAbs%v.natAbs) (z:=u%v) (by omega) (by rw[e2,Br]);have hd1:decide (u<0)=true:=decide_eq_true hneg
   (repeat(first|refine gk fun K hK=>?_|refine zs2 ?_));refine Aq ?_;(repeat(first|refine gk fun K hK=>?_|refine zs2 ?_))
   refine av ?_
   (repeat(first|refine gk fun K hK=>?_|refine zs2 ?_));(refine gar ?_;refine zs4 ?_;(refine aL1 rfl rfl rfl (by(apply Ig;(exact rfl);(focus((first|exact op_zero|exact rfl)));(exact rfl);(focus((first|exact eR|exact eP|exact eQ|exact wd_pt|exact rfl)));(kernel_rfl);(kernel_rfl);(exact rfl);(exact rfl))) ?_);refine eA ?_;refine zs4 ?_;refine zs4 ?_;refine eA ?_;refine zs6 ?_;refine zs6 ?_;refine af ?_);(repeat(first|refine gk fun K hK=>?_|refine zs2 ?_));refine Ap ?_;(repeat(first|refine gk fun K hK=>?_|refine zs2 ?_))
   exact⟨_,(aF (k:=4) aZ bB bA).trans (aF (k:=5) aZ bB bA),.three (.cell 4 62) (.cell 5 62) (.tmp 6) _ _ _ rfl (.cell 4 _ _ rfl rfl aa aa) (.cell 5 _ _ rfl rfl aa aa) (.tmp 6 rfl)⟩
 ·have hd1:decide (u<0)=false:=decide_eq_false hneg;obtain⟨e1,e2⟩:=I.1 (.inl hd1);have M1:=gh (s:=!(decide (u<0)==decide (v<0))) (n:=u.natAbs/v.natAbs) (z:=u/v) (by omega) e1.symm;have M2:=gh (s:=false) (n:=u.natAbs%v.natAbs) (z:=u%v) (by omega) (by rw[e2,Br])
  (repeat(first|refine gk fun K hK=>?_|refine zs2 ?_));refine Aq ?_;(repeat(first|refine gk fun K hK=>?_|refine zs2 ?_))
  refine az ?_
  (repeat(first|refine gk fun K hK=>?_|refine zs2 ?_));refine Ap ?_;(repeat(first|refine gk fun K hK=>?_|refine zs2 ?_))
  exact⟨_,(aF (k:=4) aZ bB bA).trans (aF (k:=5) aZ bB bA),.three (.cell 4 62) (.cell 5 62) (.tmp 6) _ _ _ rfl (.cell 4 _ _ rfl rfl aa aa) (.cell 5 _ _ rfl rfl aa aa) (.tmp 6 rfl)⟩
theorem vz(u v:Int)(hu:Hf u)(hv:Hf v)(hv0:v≠0):Fn Tryz.prog 123 [.nm u,.nm v] (.nm (u/v)):=by
 have D:=qZ u v hu hv hv0;refine aP Tryz.func123 aa rfl rfl rfl fun X0=>?_;simp only[aD]
 (repeat(first|refine gk fun K hK=>?_|refine zs2 ?_));refine px ?_;(repeat(first|refine gk fun K hK=>?_|refine zs2 ?_));(refine gar ?_;refine aS ?_;refine aS ?_;refine eA ?_;refine zs4 ?_;refine dA ?_;refine dA ?_;refine dA ?_;refine zs78 ?_;(refine dK (k:=6) (z:=(.agg #[.bool false,.slice none 0 0])) (d:=(.nm 0)) rfl rfl rfl rfl rfl aa ae ae cE ae ae bD ?_);refine dC ?_;refine dC ?_;refine zs6 ?_;refine af ?_);(repeat(first|refine gk fun K hK=>?_|refine zs2 ?_));(refine gar ?_;refine aS ?_;refine dC ?_;refine af ?_);(repeat(first|refine gk fun K hK=>?_|refine zs2 ?_))
 exact⟨_,aF (k:=4) aZ bB bA,.one (.cell 4 62) _ rfl (.cell 4 _ _ rfl rfl aa aa)⟩
theorem H5(u v:Int)(hu:Hf u)(hv:Hf v):Fn Tryz.prog 122 [.nm u,.nm v] (.nm (Int.gcd u v:Int)):=by
 have D1:=dG hu;have D2:=dG hv;unfold Hf at hu hv;refine aP Tryz.func122 aa rfl rfl rfl fun X0=>?_;simp only[aD]
 (repeat(first|refine gk fun K hK=>?_|refine zs2 ?_));refine px ?_;(repeat(first|refine gk fun K hK=>?_|refine zs2 ?_));refine Au ?_;(repeat(first|refine gk fun K hK=>?_|refine zs2 ?_))
 (refine ak (ai (sl':=[(4,.opt 4 0),(5,dN (hd u.natAbs)),(6,dN (hd v.natAbs))]) (ow':=[(4,⟨62,2,[.nm 0]⟩)]) an aw) ?_)
 refine aE (fun r s=>∃a,Nat.gcd a r=Int.gcd u v/\(hd a).length<=200000000/\(hd r).length<=200000000/\s=⟨[(4,.opt 4 0),(5,dN (hd a)),(6,dN (hd r))],[(4,⟨62,2,[.nm 0]⟩)]⟩) (m:=v.natAbs) ⟨u.natAbs,rfl,hu,hv,rfl⟩ fun r s hs=>?_;obtain⟨a,h1,h2,h3,rfl⟩:=hs;by_cases hr:r=0
 ·have hl:(hd r).length=0:=(iK _).2 hr;subst hr;rw[Nat.gcd_zero_right]at h1;have M:=gh (s:=false) (n:=a) (z:=(Int.gcd u v:Int)) (by omega) (by rw[Br,h1])
  (repeat(first|refine gk fun K hK=>?_|refine zs2 ?_));(refine gar ?_;refine zs4 ?_;refine zs5 ?_;refine zs7 ?_;refine af ?_);(repeat(first|refine gk fun K hK=>?_|refine zs2 ?_))
  refine az ?_
  (repeat(first|refine gk fun K hK=>?_|refine zs2 ?_));(refine gar ?_;refine zs4 ?_;refine zs80 ?_;refine dC ?_;refine af ?_);(repeat(first|refine gk fun K hK=>?_|refine zs2 ?_))
  exact⟨_,aF (k:=4) aZ bB bA,.one (.cell 4 62) _ rfl (.cell 4 _ _ rfl rfl aa aa)⟩
 ·have hl:(hd r).length≠0:=fun e=>hr ((iK _).1 e);have DV:=uZ a r (by omega) (by omega) (by omega);have hlt:=Nat.mod_lt a (show 0<r by omega);have hm:=fo (Nat.le_of_lt hlt);have hg:Nat.gcd r (a%r)=Int.gcd u v:=by rw[<-h1,Nat.gcd_comm a r,Nat.gcd_rec r a,Nat.gcd_comm]
  (repeat(first|refine gk fun K hK=>?_|refine zs2 ?_));(refine gar ?_;refine zs4 ?_;refine zs5 ?_;refine zs7 ?_;refine af ?_);(repeat(first|refine gk fun K hK=>?_|refine zs2 ?_))
  refine av ?_
  (repeat(first|refine gk fun K hK=>?_|refine zs2 ?_));(refine gar ?_;refine zs4 ?_;refine zs4 ?_;refine eA ?_;refine zs4 ?_;refine dA ?_;refine dA ?_;refine zs6 ?_;refine zs6 ?_;refine af ?_);(repeat(first|refine gk fun K hK=>?_|refine zs2 ?_));(refine gar ?_;refine zs4 ?_;refine zs4 ?_;refine zs6 ?_;refine zs6 ?_;refine af ?_);(repeat(first|refine gk fun K hK=>?_|refine zs2 ?_))
  simp only[nx,inB];exact⟨a%r,_,hlt,(ai (sl':=[(4,.opt 4 0),(5,dN (hd r)),(6,dN (hd (a%r)))]) (ow':=[(4,⟨62,2,[.nm 0]⟩)]) an aw),r,hg,h3,by omega,rfl⟩
end DW
end
end Go.Proofs.YtcgjmdpcplhanaaGreat
