/- Lemmas for the law: E5 E6 E8 E10 V3 V5 V6 V7 M4 V4 -/
import Derived.Laws.AppendOwnNone
import Derived.Laws.Cover3
import Derived.Lib.AppendZerosOnto
import Derived.Deep.CutBlock
import Derived.Test.YtcgjmdpcplhanaaGreatZv3
namespace Go.Proofs.YtcgjmdpcplhanaaGreat
section
abbrev yf:=@Nat.mul_right_comm
abbrev tX:=@List.getElem?_range
abbrev eL:=@Int.natAbs_mul
abbrev qD:=@Int.le_of_lt
abbrev ye:=@Int.natAbs_of_nonneg
abbrev lu:=@Int.natAbs_natCast
theorem zs71{p q:Prop}(h:q)(f:Wq q->p:=by(intro hW;((refine oK (i:=i+k) rfl rfl rfl dm dm cr an vt an mr an ak vu ?_));exact hW.out)):p:=f ⟨h⟩
theorem kE{p q:Prop}(h:q)(f:Wq q->p:=by(intro hW;(refine aL1 rfl rfl rfl zb4 ?_);exact hW.out)):p:=f ⟨h⟩
theorem Ir{p q:Prop}(h:q)(f:Wq q->p:=by(intro hW;(refine cf ?_;refine zs3 ?_;refine sL ?_;refine zs3 ?_;refine Bn ?_;refine kE ?_;refine zs71 ?_;refine ba ?_);exact hW.out)):p:=f ⟨h⟩
theorem cC{p q:Prop}(h:q)(f:Wq q->p:=by(intro hW;(refine zs1 ?_;refine BH ?_;refine bU ?_);exact hW.out)):p:=f ⟨h⟩
theorem dH{p q:Prop}(h:q)(f:Wq q->p:=by(intro hW;(refine zs1 ?_;refine BH ?_;refine bG ?_);exact hW.out)):p:=f ⟨h⟩
theorem gU{p q:Prop}(h:q)(f:Wq q->p:=by(intro hW;(refine bG ?_;refine jf ?_);exact hW.out)):p:=f ⟨h⟩
theorem zs70{p q:Prop}(h:q)(f:Wq q->p:=by(intro hW;((first|refine eK rfl rfl rfl an zb13 an an ?_|((try refine aS ?_);refine aL1 rfl rfl rfl zb13 ?_)));exact hW.out)):p:=f ⟨h⟩
theorem zs67{p q:Prop}(h:q)(f:Wq q->p:=by(intro hW;(refine aL1 rfl rfl rfl (by(first|(apply Jf;(exact rfl);(focus((apply aw;(conv=>lhs;whnf);(first|done|exact rfl))));(focus((apply aw;(conv=>lhs;whnf);(first|done|exact rfl))));(omega))|(apply dT;(exact rfl);(focus((apply aw;(conv=>lhs;whnf);(first|done|exact rfl))));(focus((apply aw;(conv=>lhs;whnf);(first|done|exact rfl))));(exact rfl)))) ?_);exact hW.out)):p:=f ⟨h⟩
theorem Iu{p q:Prop}(h:q)(f:Wq q->p:=by(intro hW;(refine cf ?_;refine kE ?_;refine fK ?_;refine zs3 ?_;refine zs67 ?_;refine dJ ?_);exact hW.out)):p:=f ⟨h⟩
theorem kW{p q:Prop}(h:q)(f:Wq q->p:=by(intro hW;(refine fJ ?_;refine oQ ?_);exact hW.out)):p:=f ⟨h⟩
theorem Is{p q:Prop}(h:q)(f:Wq q->p:=by(intro hW;(refine cf ?_;refine zs3 ?_;refine zs3 ?_;refine sL ?_;refine kE ?_;refine fK ?_;refine sL ?_;refine dJ ?_);exact hW.out)):p:=f ⟨h⟩
theorem BE{p q:Prop}(h:q)(f:Wq q->p:=by(intro hW;(refine zs34 ?_;refine Bo ?_;refine jI ?_;refine fJ ?_;refine fJ ?_;refine vf ?_;refine vf ?_;refine zs38 ?_;refine gS ?_);exact hW.out)):p:=f ⟨h⟩
theorem zb52{p:Prop}(h:p:=by first|(apply Gc;assumption)|exact lv _|exact rfl):p:=h
theorem zs68{p q:Prop}(h:q)(f:Wq q->p:=by(intro hW;((first|(apply ao 11;(focus kernel_rfl);(decide+kernel))|(apply ao 10;(focus kernel_rfl);(decide+kernel))|(apply ao 9;(focus kernel_rfl);(decide+kernel))|(apply ao 8;(focus kernel_rfl);(decide+kernel))|(apply ao 7;(focus kernel_rfl);(decide+kernel))|(apply ao 6;(focus kernel_rfl);(decide+kernel))|(apply ao 5;(focus kernel_rfl);(decide+kernel))|(apply ao 4;(focus kernel_rfl);(decide+kernel)));simp only[eZ,eE,fF,eO]);exact hW.out)):p:=f ⟨h⟩
theorem It{p q:Prop}(h:q)(f:Wq q->p:=by(intro hW;(refine cf ?_;refine zs3 ?_;refine zs64 ?_;refine zs65 ?_;refine zs67 ?_;refine dJ ?_);exact hW.out)):p:=f ⟨h⟩
theorem zs72{p q:Prop}(h:q)(f:Wq q->p:=by(intro hW;((refine wa (k:=4) (z:=(.agg #[.bool false,.slice none 0 0])) (d:=(.nm 0)) rfl rfl rfl rfl rfl ak an an mr an an dL ?_));exact hW.out)):p:=f ⟨h⟩
theorem BF{p q:Prop}(h:q)(f:Wq q->p:=by(intro hW;(refine gar ?_;refine xG ?_;refine xG ?_;refine zs72 ?_;refine ba ?_);exact hW.out)):p:=f ⟨h⟩
theorem BG{p q:Prop}(h:q)(f:Wq q->p:=by(intro hW;(refine cf ?_;refine zs4 ?_;refine mq ?_;refine fg ?_;refine rI ?_);exact hW.out)):p:=f ⟨h⟩
theorem zb14{p:Prop}(h:p:=by(first|(apply d_mul;(exact rfl);(focus((apply aw;(conv=>lhs;whnf);(first|done|exact rfl))));(focus((apply aw;(conv=>lhs;whnf);(first|done|exact rfl))));(omega))|(apply dT;(exact rfl);(focus((apply aw;(conv=>lhs;whnf);(first|done|exact rfl))));(focus((apply aw;(conv=>lhs;whnf);(first|done|exact rfl))));(exact rfl)))):p:=h
theorem zs69{p q:Prop}(h:q)(f:Wq q->p:=by(intro hW;((first|refine eK rfl rfl rfl an zb14 an an ?_|((try refine aS ?_);refine aL1 rfl rfl rfl zb14 ?_)));exact hW.out)):p:=f ⟨h⟩
theorem zs73{p q:Prop}(h:q)(f:Wq q->p:=by(intro hW;((first|(apply ao 5;(focus kernel_rfl);(decide+kernel))|(apply ao 4;(focus kernel_rfl);(decide+kernel))|(apply ao 3;(focus kernel_rfl);(decide+kernel))|(apply ao 2;(focus kernel_rfl);(decide+kernel))|(apply ao 1;(focus kernel_rfl);(decide+kernel)));simp only[eZ,eE,fF,eO]);exact hW.out)):p:=f ⟨h⟩
theorem Iq{p q:Prop}(h:q)(f:Wq q->p:=by(intro hW;(refine zs73 ?_;refine jI ?_;refine xF ?_;refine jI ?_;refine xF ?_;refine sO ?_;refine sO ?_;refine gS ?_);exact hW.out)):p:=f ⟨h⟩
theorem zb12{p:Prop}(h:p:=by(first|(apply dT;(exact rfl);(focus((apply aw;(conv=>lhs;whnf);(first|done|exact rfl))));(focus((apply aw;(conv=>lhs;whnf);(first|done|exact rfl))));(exact rfl))|(apply Ji;(exact rfl);(focus((apply aw;(conv=>lhs;whnf);(first|done|exact rfl))));(focus((apply aw;(conv=>lhs;whnf);(first|done|exact rfl))));(kernel_rfl)))):p:=h
theorem xD{p q:Prop}(h:q)(f:Wq q->p:=by(intro hW;(refine aL1 rfl rfl rfl zb12 ?_);exact hW.out)):p:=f ⟨h⟩
theorem Ip{p q:Prop}(h:q)(f:Wq q->p:=by(intro hW;(refine gar ?_;refine zs40 ?_;refine fK ?_;refine zs40 ?_;refine fK ?_;refine xD ?_;refine ba ?_);exact hW.out)):p:=f ⟨h⟩
theorem sK{p q:Prop}(h:q)(f:Wq q->p:=by(intro hW;(refine aL1 rfl rfl rfl qq ?_);exact hW.out)):p:=f ⟨h⟩
end
section
open Go.RowKit
namespace DW
theorem wR{a b o:List Nat}{i c:Nat}(hi:o.length=i)(h:Dg.vl 65536 o+Dg.vl 65536 (b.take i)=Dg.vl 65536 (a.take i)+c*65536^i)(hc:b.getD i 0+c<=a.getD i 0):
  Dg.vl 65536 (o++[a.getD i 0-b.getD i 0-c])+Dg.vl 65536 (b.take (i+1))=Dg.vl 65536 (a.take (i+1))+0*65536^(i+1):=by
 have:=Dg.yM (B:=65536) (a:=a) (b:=b) (o:=o++[0]) (i:=i) (c:=c) dK zb46 hc;rw[Dg.jn dK,my aa,cR aa]at this;exact this
theorem wS{a b o:List Nat}{i c:Nat}(hi:o.length=i)(h:Dg.vl 65536 o+Dg.vl 65536 (b.take i)=Dg.vl 65536 (a.take i)+c*65536^i)(hb:b.getD i 0+c<=a.getD i 0+65536):
  Dg.vl 65536 (o++[a.getD i 0+65536-b.getD i 0-c])+Dg.vl 65536 (b.take (i+1))=Dg.vl 65536 (a.take (i+1))+1*65536^(i+1):=by
 have:=Dg.yN (B:=65536) (a:=a) (b:=b) (o:=o++[0]) (i:=i) (c:=c) dK zb46 hb;rw[Dg.jn dK,my aa,cR aa]at this;exact this
set_option maxRecDepth 20000
set_option maxHeartbeats 1000000
theorem yO(a b:Nat)(ha:(hd a).length<=800000000)(hba:b<=a):Fn Tryz.prog 154 [dN (hd a),dN (hd b)] (dN (hd (a-b))):=by
 refine bq Tryz.func154 ak rfl rfl rfl fun X0=>?_;simp only[aQ];have hlb:(hd b).length<=(hd a).length:=vP hba;refine jL ?_;refine kX ?_;refine ew ?_;refine aI (eX (t:=5) (k:=5) (T:=3) (wd:=1) jN rfl rfl dL) ?_
 (refine aI (av (sl':=[(0,dN (hd a)),(1,dN (hd b)),(5, .own 5),(6,zI 0),(7,zI 0)]) (ow':=[(5,⟨3,1,[]⟩)]) aE aH) ?_)
 refine aX (fun r s=>∃i o c,r=(hd a).length-i/\i<=(hd a).length/\o.length=i/\Dg.dig 65536 o/\c<=1/\Dg.vl 65536 o+Dg.vl 65536 ((hd b).take i)=Dg.vl 65536 ((hd a).take i)+c*65536^i/\s=⟨[(0,dN (hd a)),(1,dN (hd b)),(5, .own 5),(6,zI (c:Nat)),(7,zI (i:Nat))],[(5,⟨3,1,o.map hN⟩)]⟩) (m:=(hd a).length) ⟨0,[],0,by omega,by omega,rfl,fun _ h=>(by cases h),by omega,by simp[Dg.vl],rfl⟩ fun r s hs=>?_;obtain⟨i,o,c,rfl,hia,ho,hdo,hc,hv,rfl⟩:=hs;by_cases hend:i=(hd a).length
 ·have e : Dg.vl 65536 o = a - b := by
   rw[cR aa,cR aa,kj,kj]at hv;have h1:=Dg.bH hdo;rw[ho]at h1;rcases(show c=0\/c=1 by omega)with h|h
   ·subst h;rw[iG]at hv;omega
   ·subst h;rw[cv]at hv;omega
  have T:=Ci (l:=o) aa hdo e;clear hv;refine dH ?_;refine aI (bB (k:=5) cr dG dF) ?_;refine jJ ?_;exact⟨_,Sh.refl, .one (.tmp 4) _ rfl (.tmp 4 rfl)⟩
 ·have hxl:(hd a).getD i 0<65536:=Dg.bw (lA a) az i;have hyl:(hd b).getD i 0<65536:=Dg.bw (lA b) az i;have hx:(hd a)[i]?=some ((hd a).getD i 0):=oF aa;have hy:i<(hd b).length->(hd b)[i]?=some ((hd b).getD i 0):=oF;have hy0:(hd b).length<=i->(hd b).getD i 0=0:=sk;have LO:=wR (a:=hd a) (b:=hd b) ho hv;have HI:=wS (a:=hd a) (b:=hd b) ho hv;obtain⟨x,hxd⟩:∃x,x=(hd a).getD i 0:=⟨_,rfl⟩;obtain⟨y,hyd⟩:∃y,y=(hd b).getD i 0:=⟨_,rfl⟩;rw[<-hxd]at hxl hx LO HI;rw[<-hyd]at hyl hy hy0 LO HI;clear hxd hyd hv;have hye:i<(hd b).length\/((hd b).length<=i/\y=0):=by
   by_cases h:i<(hd b).length
   ·exact .inl h
   ·exact .inr ⟨by omega,hy0 aa⟩
  have hlen:∀q,(o++[q]).length=i+1:=fun q=>by simp[ho]
  by_cases hge:y+c<=x
  ·have LO':=LO hge;clear LO HI;rcases hye with h6|⟨h6,h7⟩;all_goals
    refine cC ?_;refine Iu ?_;refine rH ?_
    (first|(refine mj ?_;(refine zs1 ?_);refine It ?_;(refine zs1 ?_))|(refine mn ?_;(refine zs1 ?_)))
    refine cD ?_;refine oV ?_;refine zs1 ?_;refine mn ?_
    (refine aI (av (sl':=[(0,dN (hd a)),(1,dN (hd b)),(5, .own 5),(6,zI 0),(7,zI (i:Nat)),(8,hN (x-y-c))]) (ow':=[(5,⟨3,1,o.map hN⟩)]) aE aH) ?_)
    refine zs1 ?_;refine oU ?_;refine je ?_;simp only[nx,inB];exact⟨(hd a).length-(i+1),_,by omega,(av (sl':=[(0,dN (hd a)),(1,dN (hd b)),(5, .own 5),(6,zI ((0:Nat):Int)),(7,zI ((i+1:Nat):Int))]) (ow':=[(5,⟨3,1,o.map hN++[hN (x-y-c)]⟩)]) aE aH),i+1,o++[x-y-c],0,rfl,by omega,hlen _,mQ hdo aa,by omega,LO',by rw[mJ]⟩
  ·have HI':=HI aa;clear LO HI;rcases hye with h6|⟨h6,h7⟩;all_goals
    refine cC ?_;refine Iu ?_;refine rH ?_
    (first|(refine mj ?_;(refine zs1 ?_);refine It ?_;(refine zs1 ?_))|(refine mn ?_;(refine zs1 ?_)))
    refine cD ?_;refine oV ?_;refine bU ?_;refine ct ?_;refine vg ?_;refine zs5 ?_;refine nI ?_;refine dv ?_
    (refine aI (av (sl':=[(0,dN (hd a)),(1,dN (hd b)),(5, .own 5),(6,zI 1),(7,zI (i:Nat)),(8,hN (x+65536-y-c))]) (ow':=[(5,⟨3,1,o.map hN⟩)]) aE aH) ?_)
    refine zs1 ?_;refine oU ?_;refine je ?_;simp only[nx,inB];exact⟨(hd a).length-(i+1),_,by omega,(av (sl':=[(0,dN (hd a)),(1,dN (hd b)),(5, .own 5),(6,zI ((1:Nat):Int)),(7,zI ((i+1:Nat):Int))]) (ow':=[(5,⟨3,1,o.map hN++[hN (x+65536-y-c)]⟩)]) aE aH),i+1,o++[x+65536-y-c],1,rfl,by omega,hlen _,mQ hdo aa,by omega,HI',by rw[mJ]⟩
end DW
end
section
open Go.RowKit
namespace DW
theorem ui{l m o:List Nat}{i k x c:Nat}(hl:Dg.dig 65536 l)(hm:Dg.dig 65536 m)(hil:i<l.length)(hx:x=l.getD i 0)(h:Dg.vl 65536 o+c*65536^(i+k)=Dg.vl 65536 (l.take i)*Dg.vl 65536 m+x*Dg.vl 65536 (m.take k)*65536^i)(hc:c≠0):k<=m.length:=by
 apply cQ;intro hlt;rw[cR (l:=m) aa]at h;have e:Dg.vl 65536 (l.take (i+1))*Dg.vl 65536 m=Dg.vl 65536 (l.take i)*Dg.vl 65536 m+x*Dg.vl 65536 m*65536^i:=by
  rw[Dg.cI,<-hx,bC,yf]
 have h1:=Dg.bH (Dg.fP hl (i+1));rw[aP,cV aa]at h1;have h2:=Dg.bH hm;have h3:Dg.vl 65536 (l.take (i+1))*Dg.vl 65536 m<=65536^(i+1)*65536^m.length:=bZ (bR h1) (bR h2);rw[<-gy]at h3;have h4:(65536:Nat)^(i+1+m.length)<=65536^(i+k):=cE az aa;have h5:1*65536^(i+k)<=c*65536^(i+k):=cU _ aa;have h6:0<(65536:Nat)^(i+1+m.length):=fl az;have h7:Dg.vl 65536 (l.take (i+1))*Dg.vl 65536 m<65536^(i+1)*65536^m.length:=by
  by_cases hz:Dg.vl 65536 m=0
  ·rw[hz,gA,<-gy];exact h6
  ·exact qJ h1 (bR h2) aa
 rw[<-gy]at h7;omega
theorem Ck{l m o:List Nat}{i k x:Nat}(hk:m.length<=k)(hx:x=l.getD i 0)(h:Dg.vl 65536 o+0*65536^(i+k)=Dg.vl 65536 (l.take i)*Dg.vl 65536 m+x*Dg.vl 65536 (m.take k)*65536^i):Dg.vl 65536 o=Dg.vl 65536 (l.take (i+1))*Dg.vl 65536 m:=by
 rw[cR hk,iG,bP]at h;rw[h,Dg.cI,<-hx,bC,yf x]
theorem tB{o:List Nat}{j:Nat}(h:j<o.length):o[j]?=some (o.getD j 0):=nA h
theorem map_set(o:List Nat)(j v:Nat):(o.set j v).map hN=(o.map hN).set j (hN v):=List.map_set
set_option maxRecDepth 20000
set_option maxHeartbeats 1000000
theorem Gf(l m:List Nat)(hl:Dg.dig 65536 l)(hm:Dg.dig 65536 m)(hll:l.length<=400000000)(hml:m.length<=400000000):Fn Tryz.prog 155 [dN l,dN m] (dN (hd (Dg.vl 65536 l*Dg.vl 65536 m))):=by
 refine bq Tryz.func155 ak rfl rfl rfl fun X0=>?_;simp only[aQ];obtain⟨L,hL⟩:∃L,L=l.length+m.length+1:=⟨_,rfl⟩;have hLc:(l.length:Int)+(m.length:Int)+1=(L:Int):=by omega
 refine jL ?_;refine gn ?_;refine zs3 ?_;refine zs4 ?_;refine sL ?_;refine vg ?_;(refine FW (k:=15) (T:=Tryz.prog.elem 40) (zv:=(.int .i64 0)) (d0:=(.sc (.int .i64 0))) (wd:=1) rfl rfl rfl rfl dm dm ak ak an an an an an aa zb52 an dL ?_);refine dJ ?_;refine cD ?_
 (refine aI (av (sl':=[(0,dN l),(1,dN m),(5, .own 15),(6,zI 0)]) (ow':=[(15,⟨3,1,List.replicate L (zI 0)⟩)]) aE aH) ?_)
 refine aX (fun r s=>∃i o,r=l.length-i/\i<=l.length/\o.length=L/\Dg.dig 65536 o/\Dg.vl 65536 o=Dg.vl 65536 (l.take i)*Dg.vl 65536 m/\s=⟨[(0,dN l),(1,dN m),(5, .own 15),(6,zI (i:Nat))],[(15,⟨3,1,o.map hN⟩)]⟩) (m:=l.length) ⟨0,List.replicate L 0,by omega,by omega,by simp,Dg.gk az _,by rw[Dg.pj];simp[Dg.vl],by rw[List.map_replicate];rfl⟩ fun r s hs=>?_;obtain⟨i,o,rfl,hil,ho,hdo,hv,rfl⟩:=hs;by_cases hend:i=l.length
 ·have e:Dg.vl 65536 o=Dg.vl 65536 l*Dg.vl 65536 m:=by rw[hv,cR aa]
  have T:=Ci (l:=o) aa hdo e;clear hv;refine dH ?_;refine aI (bB (k:=15) cr dG dF) ?_;refine jJ ?_;exact⟨_,Sh.refl, .one (.tmp 4) _ rfl (.tmp 4 rfl)⟩
 ·have hil':i<l.length:=by omega
  obtain⟨x,hxd⟩:∃x,x=l.getD i 0:=⟨_,rfl⟩;have hx:l[i]?=some x:=by rw[hxd];exact tB hil'
  have hxl:x<65536:=by rw[hxd];exact Dg.bw hl az i
  refine cC ?_;refine BJ ?_;refine cD ?_
  (refine aI (av (sl':=[(0,dN l),(1,dN m),(5, .own 15),(6,zI (i:Nat)),(7,zI 0),(8,zI 0)]) (ow':=[(15,⟨3,1,o.map hN⟩)]) aE aH) ?_)
  refine aX (fun r s=>∃k o c,r=m.length+1-k/\o.length=L/\Dg.dig 65536 o/\c<65536/\(k<=m.length\/(k<=m.length+1/\c=0))/\Dg.vl 65536 o+c*65536^(i+k)=Dg.vl 65536 (l.take i)*Dg.vl 65536 m+x*Dg.vl 65536 (m.take k)*65536^i/\s=⟨[(0,dN l),(1,dN m),(5, .own 15),(6,zI (i:Nat)),(7,zI (c:Nat)),(8,zI (k:Nat))],[(15,⟨3,1,o.map hN⟩)]⟩) (m:=m.length+1) ⟨0,o,0,by omega,ho,hdo,by omega, .inl aa,by rw[hv];simp[Dg.vl],rfl⟩ fun r s hs=>?_;clear hv hdo ho;obtain⟨k,o,c,rfl,ho,hdo,hc,hkm,hv,rfl⟩:=hs;by_cases hend2:m.length<=k/\c=0
  ·obtain⟨h1,h2⟩:=hend2;have e:Dg.vl 65536 o=Dg.vl 65536 (l.take (i+1))*Dg.vl 65536 m:=by subst h2;exact Ck h1 hxd hv
   clear hv;refine zs1 ?_;refine BG ?_;refine gU ?_;simp only[nx,inB];exact⟨l.length-(i+1),_,by omega,(av (sl':=[(0,dN l),(1,dN m),(5, .own 15),(6,zI ((i+1:Nat):Int))]) (ow':=[(15,⟨3,1,o.map hN⟩)]) aE aH),i+1,o,rfl,by omega,ho,hdo,e,rfl⟩
  ·have hk : k <= m.length := by
    by_cases h:c=0
    ·omega
    ·exact ui hl hm hil' hxd hv h
   have hik:i+k<o.length:=by omega
   have STEP:=Dg.uh (B:=65536) (b:=m) (o:=o) (i:=i) (k:=k) (x:=x) (c:=c) hik hv;have hu:=tB hik;have hul:o.getD (i+k) 0<65536:=Dg.bw hdo az _;have hyl:m.getD k 0<65536:=Dg.bw hm az _;have hy:k<m.length->m[k]?=some (m.getD k 0):=tB;have hy0:m.length<=k->m.getD k 0=0:=sk;clear hv;obtain⟨u,hud⟩:∃u,u=o.getD (i+k) 0:=⟨_,rfl⟩;obtain⟨y,hyd⟩:∃y,y=m.getD k 0:=⟨_,rfl⟩;rw[<-hud]at hul hu STEP;rw[<-hyd]at hyl hy hy0 STEP;clear hud hyd;have hxy:x*y<=65535*65535:=bZ aa aa;have hxy0:y=0->x*y=0:=fun h=>by rw[h,gA]
   have hc2:(x*y+u+c)/65536<65536:=by
    rw[xm az];omega
   have hik':(i:Int)+(k:Int)=((i+k:Nat):Int):=by omega
   have hdig:=Dg.eV hdo (j:=i+k) (ed (x*y+u+c) (by decide:0<65536));have hms:=map_set o (i+k) ((x*y+u+c)%65536);have hlen:(o.set (i+k) ((x*y+u+c)%65536)).length=L:=by rw[dc];exact ho
   have hcast:((x*y:Nat):Int)=(x:Int)*(y:Int):=Int.natCast_mul x y;have hye:k<m.length\/(m.length<=k/\y=0/\c≠0):=by
    by_cases h:k<m.length
    ·exact .inl h
    ·exact .inr ⟨by omega,hy0 aa,by omega⟩
   rcases hye with h6|⟨h6,h7,h8⟩
   ·have hye:=hy h6;refine zs1 ?_;refine BG ?_;refine bU ?_;refine Is ?_;refine cC ?_;refine zs68 ?_;refine fJ ?_;refine kW ?_;refine kW ?_;refine zs69 ?_;refine zs70 ?_;refine sO ?_;refine gS ?_;refine zs1 ?_
    (refine aI (av (sl':=[(0,dN l),(1,dN m),(5, .own 15),(6,zI (i:Nat)),(7,zI ((x*y+u+c:Nat):Int)),(8,zI (k:Nat))]) (ow':=[(15,⟨3,1,o.map hN⟩)]) aE aH) ?_)
    refine zs1 ?_;refine Ir ?_;refine zs1 ?_;refine tJ ?_;refine je ?_;simp only[nx,inB];exact⟨m.length+1-(k+1),_,by omega,(av (sl':=[(0,dN l),(1,dN m),(5, .own 15),(6,zI (i:Nat)),(7,zI (((x*y+u+c)/65536:Nat):Int)),(8,zI ((k+1:Nat):Int))]) (ow':=[(15,⟨3,1,(o.map hN).set (i+k) (hN ((x*y+u+c)%65536))⟩)]) aE aH),k+1,o.set (i+k) ((x*y+u+c)%65536),(x*y+u+c)/65536,rfl,hlen,hdig,hc2,by omega,STEP,by rw[hms]⟩
   ·have h9:=hxy0 h7;refine zs1 ?_;refine BG ?_;refine bU ?_;refine Is ?_;refine rH ?_;refine mn ?_
    (refine aI (av (sl':=[(0,dN l),(1,dN m),(5, .own 15),(6,zI (i:Nat)),(7,zI ((x*y+u+c:Nat):Int)),(8,zI (k:Nat))]) (ow':=[(15,⟨3,1,o.map hN⟩)]) aE aH) ?_)
    refine zs1 ?_;refine Ir ?_;refine zs1 ?_;refine tJ ?_;refine je ?_;simp only[nx,inB];have hk1:k+1<=m.length\/(k+1<=m.length+1/\(x*y+u+c)/65536=0):=by
     refine .inr ⟨by omega,Classical.byContradiction fun h=>?_⟩;have:=ui hl hm hil' hxd STEP h;omega
    exact⟨m.length+1-(k+1),_,by omega,(av (sl':=[(0,dN l),(1,dN m),(5, .own 15),(6,zI (i:Nat)),(7,zI (((x*y+u+c)/65536:Nat):Int)),(8,zI ((k+1:Nat):Int))]) (ow':=[(15,⟨3,1,(o.map hN).set (i+k) (hN ((x*y+u+c)%65536))⟩)]) aE aH),k+1,o.set (i+k) ((x*y+u+c)%65536),(x*y+u+c)/65536,rfl,hlen,hdig,hc2,hk1,STEP,by rw[hms]⟩
end DW
end
section
open Go.RowKit
namespace DW
theorem Me(a b:Nat):(hd (a*b)).length<=(hd a).length+(hd b).length:=by
 by_cases h0:b=0
 ·subst h0;rw[gA,(zh 0).2 rfl];omega
 apply ny;rw[gy];exact qJ (si a) (bR (si b)) (fl az)
theorem Mg(a b:Nat):(hd (a+b)).length<=max (hd a).length (hd b).length+1:=by
 apply ny;rw[dw];have h1:(65536:Nat)^(hd a).length<=65536^max (hd a).length (hd b).length:=cE az (Nat.le_max_left _ _);have h2:(65536:Nat)^(hd b).length<=65536^max (hd a).length (hd b).length:=cE az (Nat.le_max_right _ _);have:=si a;have:=si b;omega
theorem jE(z:Int):Dg.iv (decide (z<0)) z.natAbs=z:=za
set_option maxRecDepth 20000
set_option maxHeartbeats 1000000
theorem add_d(u v:Int)(hu:Hf u)(hv:Hf v):Fn Tryz.prog 83 [.nm u,.nm v] (.nm (u+v)):=by
 have D1:=mi hu;have D2:=mi hv;unfold Hf at hu hv;have hp:=Mg u.natAbs v.natAbs;refine bq Tryz.func83 ak rfl rfl rfl fun X0=>?_;simp only[aQ];by_cases hs:decide (u<0)=decide (v<0)
 ·have hb:(decide (u<0)==decide (v<0))=true:=by rw[hs,beq_self_eq_true]
  have M:=uC (s:=decide (u<0)) (n:=u.natAbs+v.natAbs) (z:=u+v) aa (by
   rw[Dg.AQ]
   conv=>lhs;rhs;rw[hs]
   rw[jE,jE])
  have PL:=J7 u.natAbs v.natAbs aa aa;refine zs1 ?_;refine BF ?_;refine zs1 ?_;refine Iq ?_;refine zs1 ?_;refine Ip ?_;refine bU ?_;refine BE ?_;refine zs1 ?_;exact⟨_,bB (k:=4) cr dG dF,.one (.cell 4 62) _ rfl (.cell 4 _ _ rfl rfl ak ak)⟩
 ·have hb:(decide (u<0)==decide (v<0))=false:=by rw[beq_eq_false_iff_ne];exact hs
  have LE:=L1 u.natAbs v.natAbs aa aa;refine zs1 ?_;refine BF ?_;refine zs1 ?_;refine Iq ?_;refine zs1 ?_;refine Ip ?_;refine bG ?_;refine cf ?_;refine sK ?_;refine dv ?_;by_cases hl:u.natAbs<v.natAbs
  ·have MI:=yO v.natAbs u.natAbs aa aa;have hm:=vP (show v.natAbs-u.natAbs<=v.natAbs by omega);have M:=uC (s:=decide (v<0)) (n:=v.natAbs-u.natAbs) (z:=u+v) aa (by
    rw[Dg.uH hs aa,jE,jE])
   refine mj ?_;refine zs1 ?_;refine BE ?_;refine zs1 ?_;exact⟨_,bB (k:=4) cr dG dF,.one (.cell 4 62) _ rfl (.cell 4 _ _ rfl rfl ak ak)⟩
  ·have MI:=yO u.natAbs v.natAbs aa aa;have hm:=vP (show u.natAbs-v.natAbs<=u.natAbs by omega);have M:=uC (s:=decide (u<0)) (n:=u.natAbs-v.natAbs) (z:=u+v) aa (by
    rw[Dg.uI hs aa,jE,jE])
   refine mn ?_;refine zs1 ?_;refine BE ?_;refine zs1 ?_;exact⟨_,bB (k:=4) cr dG dF,.one (.cell 4 62) _ rfl (.cell 4 _ _ rfl rfl ak ak)⟩
theorem mul_d(u v:Int)(hu:Hf u)(hv:Hf v):Fn Tryz.prog 84 [.nm u,.nm v] (.nm (u*v)):=by
 have D1:=mi hu;have D2:=mi hv;unfold Hf at hu hv;have hp:=Me u.natAbs v.natAbs;have T:=Gf (hd u.natAbs) (hd v.natAbs) (lA _) (lA _) aa aa;rw[kj,kj]at T;have M:=uC (s:=!(decide (u<0)==decide (v<0))) (n:=u.natAbs*v.natAbs) (z:=u*v) aa (by
  have:=Dg.zd (decide (u<0)) (decide (v<0)) u.natAbs v.natAbs;rw[jE,jE]at this;exact this)
 refine bq Tryz.func84 ak rfl rfl rfl fun X0=>?_;simp only[aQ];refine zs1 ?_;refine BF ?_;refine zs1 ?_;refine zs68 ?_;refine Bo ?_;refine jI ?_;refine Bo ?_;refine jI ?_;refine Bl ?_;refine jI ?_;refine xF ?_;refine jI ?_;refine xF ?_;refine vf ?_;refine vf ?_;refine zs38 ?_;refine gS ?_;refine zs1 ?_;exact⟨_,bB (k:=4) cr dG dF,.one (.cell 4 62) _ rfl (.cell 4 _ _ rfl rfl ak ak)⟩
end DW
end
section
open Go.RowKit
namespace DW
theorem lW(z:Int):sgn z>0↔z>0:=by unfold sgn;split<;>(try split)<;>omega
set_option maxRecDepth 20000
set_option maxHeartbeats 1000000
end DW
end
section
open Go.RowKit Go.BigFrame
attribute [local go_sem ↓] Go.wp_at_zero Go.wp_at_succ
structure MO(w:World)(B gm L:Nat)(gs cs:Nat->Nat)(n:Nat)(M:Mx.Mat):Prop where
 b:B<=gm
 lt:gm<w.heap.size
 fr:∀k,w.frozen? ⟨gm,k,none⟩=false
 hl:∀i,i<L->∃u,w.cell? ⟨gm,i,none⟩=some u
 nw:NW w gm
 ml:M.length<=L
 rc:Mx.Rc n M
 n0:0<n
 hc:∀i,i<M.length->w.cell? ⟨gm,i,none⟩=some (.slice (some ⟨gs i,0,none⟩) n (cs i))/\n<=cs i/\B<=gs i/\gs i≠gm/\RO w (gs i) (Mx.rw M i)
 dj:∀i j,i<M.length->j<M.length->i≠j->gs i≠gs j
theorem NW.lY{w w':World}{g:Nat}(h:NW w g)(e:w'.cell? ⟨g,0,none⟩=w.cell? ⟨g,0,none⟩):NW w' g:=fun n h2=>h n (e.symm.trans h2)
theorem MO.below{B':Nat}{w w':World}{B gm L:Nat}{gs cs:Nat->Nat}{n:Nat}{M:Mx.Mat}(h:MO w B gm L gs cs n M)(hb:Below B' w w')(hB:w.heap.size<=B'):MO w' B gm L gs cs n M:=by
 have hg:gm<B':=aK h.lt hB;refine⟨h.b,aK h.lt hb.size,fun k=>(hb.frozen (p:=⟨gm,k,none⟩) hg).trans (h.fr k),fun i hi=>?_,h.nw.lY (hb.cell (p:=⟨gm,0,none⟩) hg),h.ml,h.rc,h.n0,fun i hi=>?_,h.dj⟩
 ·obtain⟨u,hu⟩:=h.hl i hi;exact⟨u,(hb.cell (p:=⟨gm,i,none⟩) hg).trans hu⟩
 ·obtain⟨h1,h2,h3,h4,h5⟩:=h.hc i hi;exact⟨(hb.cell (p:=⟨gm,i,none⟩) hg).trans h1,h2,h3,h4,h5.below hb hB⟩
theorem MO.Ls{w:World}{B gm L:Nat}{gs cs:Nat->Nat}{n:Nat}{M:Mx.Mat}(h:MO w B gm L gs cs n M){i:Nat}(hi:i<M.length):Mx.rw M i≠[]:=fun e=>by
 have:=h.rc.rw hi;have:=h.n0;rw[e]at*;simp at*;omega
theorem MO.Ey{w:World}{B gm L:Nat}{gs cs:Nat->Nat}{n:Nat}{M:Mx.Mat}(h:MO w B gm L gs cs n M){i:Nat}(hi:i<M.length):NW w (gs i):=(h.hc i hi).2.2.2.2.nw (h.Ls hi)
theorem MO.setRow{w w':World}{B gm L:Nat}{gs cs:Nat->Nat}{n:Nat}{M:Mx.Mat}(h:MO w B gm L gs cs n M){i:Nat}(hi:i<M.length){zs:List Int}(hz:zs.length=n)(k:Chg (gs i) w w')(hr:RO w' (gs i) zs):MO w' B gm L gs cs n (M.set i zs):=by
 have hne:=(h.hc i hi).2.2.2.1;have hnw:=h.Ey hi;refine⟨h.b,aK h.lt k.size,fun j=>(k.frozen h.lt (Ne.symm hne)).trans (h.fr j),fun j hj=>?_,h.nw.lY (k.cell h.lt (Ne.symm hne)),by rw[dc];exact h.ml,h.rc.set hz,h.n0,fun j hj=>?_,fun a b ha hb=>?_⟩
 ·obtain⟨u,hu⟩:=h.hl j hj;exact⟨u,(k.cell h.lt (Ne.symm hne)).trans hu⟩
 ·rw[dc]at hj;obtain⟨h1,h2,h3,h4,h5⟩:=h.hc j hj;refine⟨(k.cell h.lt (Ne.symm hne)).trans h1,h2,h3,h4,?_⟩;rw[Mx.jX _ _ _ _ hi];by_cases e:j=i
  ·rw[aj e,e];exact hr
  ·rw[ah e];exact h5.chg k hnw (h.dj j i hj hi e)
 ·rw[dc]at ha hb;exact h.dj a b ha hb
def ix(f:Nat->Nat)(i j:Nat):Nat->Nat:=fun k=>if k=j then f i else if k=i then f j else f k
theorem MO.swp{w:World}{B gm L:Nat}{gs cs:Nat->Nat}{n:Nat}{M:Mx.Mat}(h:MO w B gm L gs cs n M){i j:Nat}(hi:i<M.length)(hj:j<M.length):
  MO ((w.setCell ⟨gm,i,none⟩ (.slice (some ⟨gs j,0,none⟩) n (cs j))).setCell ⟨gm,j,none⟩ (.slice (some ⟨gs i,0,none⟩) n (cs i))) B gm L (ix gs i j) (ix cs i j) n (Mx.swp M i j):=by
 have k:Chg gm w ((w.setCell ⟨gm,i,none⟩ (.slice (some ⟨gs j,0,none⟩) n (cs j))).setCell ⟨gm,j,none⟩ (.slice (some ⟨gs i,0,none⟩) n (cs i))):=((Chg.refl gm w).set gm _ _ (.inl rfl)).set gm _ _ (.inl rfl);obtain⟨i1,i2,i3,i4,i5⟩:=h.hc i hi;obtain⟨j1,j2,j3,j4,j5⟩:=h.hc j hj;have cell:∀(l:Nat) (u:Value),w.cell? ⟨gm,l,none⟩=some u->((w.setCell ⟨gm,i,none⟩ (.slice (some ⟨gs j,0,none⟩) n (cs j))).setCell ⟨gm,j,none⟩ (.slice (some ⟨gs i,0,none⟩) n (cs i))).cell? ⟨gm,l,none⟩=some (if l=j then .slice (some ⟨gs i,0,none⟩) n (cs i)else if l=i then .slice (some ⟨gs j,0,none⟩) n (cs j)else u):=fun l u hu=>by
  by_cases e:l=j
  ·subst e;rw[aj rfl];by_cases e2:l=i
   ·subst e2;exact eU _ _ _ _ _ (eU _ _ _ _ _ hu)
   ·exact eU _ _ _ _ _ ((dR _ _ _ _ _ e2).trans hu)
  ·rw[ah e,dR _ _ _ _ _ e];by_cases e2:l=i
   ·subst e2;rw[aj rfl];exact eU _ _ _ _ _ hu
   ·rw[ah e2,dR _ _ _ _ _ e2];exact hu
 refine⟨h.b,by simpa using h.lt,fun l=>by rw[World.frozen?_setCell,World.frozen?_setCell];exact h.fr l,fun l hl=>?_,fun m e=>?_,by rw[Mx.cW];exact h.ml,Mx.jV h.rc hi hj,h.n0,fun l hl=>?_,fun a b ha hb hab=>?_⟩
 ·obtain⟨u,hu⟩:=h.hl l hl;exact⟨_,cell l u hu⟩
 ·obtain⟨u,hu⟩:=h.hl 0 (by have:=h.ml;omega);rw[cell 0 u hu]at e;simp only[ai]at e;split at e
  ·cases e
  ·split at e
   ·cases e
   ·rw[e]at hu;exact h.nw m hu
 ·rw[Mx.cW]at hl;obtain⟨h1,h2,h3,h4,h5⟩:=h.hc l hl;rw[cell l _ h1,Mx.uj hi hj];unfold ix;by_cases e:l=j
  ·rw[aj e,aj e,aj e,aj e];exact⟨rfl,i2,i3,i4,i5.chg k h.nw i4⟩
  ·rw[ah e,ah e,ah e,ah e];by_cases e2:l=i
   ·rw[aj e2,aj e2,aj e2,aj e2];exact⟨rfl,j2,j3,j4,j5.chg k h.nw j4⟩
   ·rw[ah e2,ah e2,ah e2,ah e2];exact⟨rfl,h2,h3,h4,h5.chg k h.nw h4⟩
 ·rw[Mx.cW]at ha hb;unfold ix;by_cases a1:a=j
  ·rw[aj a1];by_cases b1:b=j
   ·omega
   ·rw[ah b1];by_cases b2:b=i
    ·rw[aj b2];by_cases e:i=j
     ·omega
     ·exact h.dj i j hi hj e
    ·rw[ah b2];exact h.dj i b hi hb (Ne.symm b2)
  ·rw[ah a1];by_cases a2:a=i
   ·rw[aj a2];by_cases b1:b=j
    ·rw[aj b1];by_cases e:i=j
     ·omega
     ·exact h.dj j i hj hi (Ne.symm e)
    ·rw[ah b1,ah aa];exact h.dj j b hj hb (Ne.symm b1)
   ·rw[ah a2];by_cases b1:b=j
    ·rw[aj b1];exact h.dj a i ha hi a2
    ·rw[ah b1];by_cases b2:b=i
     ·rw[aj b2];exact h.dj a j ha hj a1
     ·rw[ah b2];exact h.dj a b ha hb hab
end
section
open Go.RowKit Go.BigFrame
attribute [local go_sem ↓] Go.wp_at_zero Go.wp_at_succ
def AD(b:Option Addr):Prop:=∃g o,b=some ⟨g,o,none⟩
theorem AD.some(g o:Nat):AD (some ⟨g,o,none⟩):=⟨g,o,rfl⟩
structure MB(w:World)(B gm L:Nat)(gs cs:Nat->Nat)(n:Nat)(M:Mx.Mat):Prop where
 b:B<=gm
 lt:gm<w.heap.size
 fr:∀k,w.frozen? ⟨gm,k,none⟩=false
 hl:∀i,i<L->∃u,w.cell? ⟨gm,i,none⟩=some u
 nw:NW w gm
 ml:M.length<=L
 rc:Mx.Rc n M
 hc:∀i,i<M.length->∃b,w.cell? ⟨gm,i,none⟩=some (.slice b n (cs i))/\n<=cs i/\AD b/\(0<n->b=some ⟨gs i,0,none⟩/\B<=gs i/\gs i≠gm/\RO w (gs i) (Mx.rw M i))
 dj:0<n->∀i j,i<M.length->j<M.length->i≠j->gs i≠gs j
theorem MB.mo{w:World}{B gm L:Nat}{gs cs:Nat->Nat}{n:Nat}{M:Mx.Mat}(h:MB w B gm L gs cs n M)(h0:0<n):MO w B gm L gs cs n M:=
 ⟨h.b,h.lt,h.fr,h.hl,h.nw,h.ml,h.rc,h0,fun i hi=>by
  obtain⟨b,h1,h2,_,h3⟩:=h.hc i hi;obtain⟨rfl,h4,h5,h6⟩:=h3 h0;exact⟨h1,h2,h4,h5,h6⟩,h.dj h0⟩
theorem MO.mb{w:World}{B gm L:Nat}{gs cs:Nat->Nat}{n:Nat}{M:Mx.Mat}(h:MO w B gm L gs cs n M):MB w B gm L gs cs n M:=
 ⟨h.b,h.lt,h.fr,h.hl,h.nw,h.ml,h.rc,fun i hi=>by
  obtain⟨h1,h2,h3,h4,h5⟩:=h.hc i hi;exact⟨_,h1,h2,AD.some _ _,fun _=>⟨rfl,h3,h4,h5⟩⟩,fun _=>h.dj⟩
theorem MB.below{B':Nat}{w w':World}{B gm L:Nat}{gs cs:Nat->Nat}{n:Nat}{M:Mx.Mat}(h:MB w B gm L gs cs n M)(hb:Below B' w w')(hB:w.heap.size<=B'):MB w' B gm L gs cs n M:=by
 have hg:gm<B':=aK h.lt hB;refine⟨h.b,aK h.lt hb.size,fun k=>(hb.frozen (p:=⟨gm,k,none⟩) hg).trans (h.fr k),fun i hi=>?_,h.nw.lY (hb.cell (p:=⟨gm,0,none⟩) hg),h.ml,h.rc,fun i hi=>?_,h.dj⟩
 ·obtain⟨u,hu⟩:=h.hl i hi;exact⟨u,(hb.cell (p:=⟨gm,i,none⟩) hg).trans hu⟩
 ·obtain⟨b,h1,h2,hA,h3⟩:=h.hc i hi;exact⟨b,(hb.cell (p:=⟨gm,i,none⟩) hg).trans h1,h2,hA,fun h0=>⟨(h3 h0).1,(h3 h0).2.1,(h3 h0).2.2.1,(h3 h0).2.2.2.below hb hB⟩⟩
theorem J0(M:Mx.Mat)(zs:List Int)(i:Nat):Mx.rw (M++[zs]) i=if i=M.length then zs else Mx.rw M i:=by
 unfold Mx.rw;rw[aF,aF];by_cases e:i=M.length
 ·subst e;rw[aj rfl,iC (af _)];simp
 ·rw[ah e];by_cases e2:i<M.length
  ·rw[et e2]
  ·rw[iC aa,gw dK,gw aa]
theorem MB.push{w:World}{B gm L:Nat}{gs cs:Nat->Nat}{n:Nat}{M:Mx.Mat}(h:MB w B gm L gs cs n M){g c:Nat}{b:Option Addr}{zs:List Int}(hL:M.length<L)(hz:zs.length=n)(hc:n<=c)(hA:AD b)(hr:0<n->b=some ⟨g,0,none⟩/\RO w g zs/\B<=g/\g≠gm/\∀i,i<M.length->gs i≠g):
  MB (w.setCell ⟨gm,M.length,none⟩ (.slice b n c)) B gm L (fun i=>if i=M.length then g else gs i) (fun i=>if i=M.length then c else cs i) n (M++[zs]):=by
 have k:Chg gm w (w.setCell ⟨gm,M.length,none⟩ (.slice b n c)):=(Chg.refl gm w).set gm _ _ (.inl rfl);have cell:∀(l:Nat) (u:Value),w.cell? ⟨gm,l,none⟩=some u->(w.setCell ⟨gm,M.length,none⟩ (.slice b n c)).cell? ⟨gm,l,none⟩=some (if l=M.length then .slice b n c else u):=fun l u hu=>by
  by_cases e:l=M.length
  ·rw[aj e,<-e];exact eU _ _ _ _ _ hu
  ·rw[ah e,dR _ _ _ _ _ e];exact hu
 refine⟨h.b,by simpa using h.lt,fun l=>by rw[World.frozen?_setCell];exact h.fr l,fun l hl=>?_,fun m e=>?_,by simp;omega,fun r hr=>?_,fun l hl=>?_,fun h0 a b ha hb hab=>?_⟩
 ·obtain⟨u,hu⟩:=h.hl l hl;exact⟨_,cell l u hu⟩
 ·obtain⟨u,hu⟩:=h.hl 0 aa;rw[cell 0 u hu]at e;simp only[ai]at e;split at e
  ·cases e
  ·rw[e]at hu;exact h.nw m hu
 ·rcases de.1 hr with h1|h1
  ·exact h.rc r h1
  ·rw[bV.1 h1];exact hz
 ·simp only[cq,gY]at hl;rw[J0];by_cases e:l=M.length
  ·subst e;obtain⟨u,hu⟩:=h.hl M.length hL;rw[cell _ u hu,aj rfl,aj rfl,aj rfl,aj rfl];exact⟨b,rfl,hc,hA,fun h0=>⟨(hr h0).1,(hr h0).2.2.1,(hr h0).2.2.2.1,(hr h0).2.1.chg k h.nw (hr h0).2.2.2.1⟩⟩
  ·obtain⟨b',h1,h2,hA',h3⟩:=h.hc l aa;rw[cell l _ h1,ah e,ah e,ah e,ah e];exact⟨b',rfl,h2,hA',fun h0=>⟨(h3 h0).1,(h3 h0).2.1,(h3 h0).2.2.1,(h3 h0).2.2.2.chg k h.nw (h3 h0).2.2.1⟩⟩
 ·simp only[cq,gY]at ha hb;by_cases a1:a=M.length
  ·rw[aj a1,ah aa];exact fun e=>(hr h0).2.2.2.2 b aa e.symm
  ·rw[ah a1];by_cases b1:b=M.length
   ·rw[aj b1];exact(hr h0).2.2.2.2 a aa
   ·rw[ah b1];exact h.dj h0 a b aa aa hab
theorem J1:(Tryz.prog.info? 147).map (fun i=>(i.zero,i.size,i.bytes))=some (some (.slice none 0 0),1,24):=by kernel_rfl
theorem wC(n:Nat)(hn:n<=1000000000)(w:World):
  (Instr.makeSlice 104 (.int .i64 (n:Int)) (.int .i64 (n:Int))).run Tryz.prog w= .ok (.slice (some ⟨w.heap.size,0,none⟩) n n) (w.alloc (.cells (madeCells #[.slice none 0 0] n) 147)):=by
 obtain⟨i,hi,hz,hs,hb⟩:=iZ J1;have hr:=run_make (P:=Tryz.prog) w 104 147 i _ Tryz.underlying104 hi hz .i64 .i64 n n aa (qI _) (by rw[hb];omega) aa;rw[hs]at hr;simpa[Value.cells]using hr
theorem CE(n k:Nat)(hk:k<n):(madeCells #[.slice none 0 0] n)[k]?=some (.slice none 0 0):=by
 unfold madeCells;rw[oe,od,aj aa];simp[Nat.mod_one]
theorem MB.made(w:World)(B L n:Nat)(gs cs:Nat->Nat)(hB:B<=w.heap.size):MB (w.alloc (.cells (madeCells #[.slice none 0 0] L) 147)) B w.heap.size L gs cs n []:=by
 have hh:=heap_alloc_new w (.cells (madeCells #[.slice none 0 0] L) 147);have hc:∀i,i<L->(w.alloc (.cells (madeCells #[.slice none 0 0] L) 147)).cell? ⟨w.heap.size,i,none⟩=some (.slice none 0 0):=fun i hi=>by
  rw[cell_of_row _ w.heap.size _ _ _ (0,0) hh];exact CE L i hi
 refine⟨hB,by simp,fun k=>?_,fun i hi=>⟨_,hc i hi⟩,fun n e=>?_,aO _,fun r hr=>by(cases hr),fun i hi=>by(simp at hi),fun _ i j hi=>by(simp at hi)⟩
 ·simp only[World.frozen?];rw[hh];simp
 ·by_cases hL:0<L
  ·rw[hc 0 hL]at e;cases e
  ·rw[cell_of_row _ w.heap.size _ _ _ (0,0) hh]at e;have:L=0:=by omega
   subst this;simp[madeCells]at e
def MR(w:World)(v:Value)(n:Nat)(M:Mx.Mat):Prop:=∃a cap,v= .slice a M.length cap/\M.length<=cap/\Mx.Rc n M/\(M=[]\/∃gm om,a=some ⟨gm,om,none⟩/\gm<w.heap.size/\
 ∀i,i<M.length->∃b c,w.cell? ⟨gm,om+i,none⟩=some (.slice b n c)/\n<=c/\AD b/\(n=0\/∃g o,b=some ⟨g,o,none⟩/\RA w g o (Mx.rw M i)))
theorem MR.below{B:Nat}{w w':World}{v:Value}{n:Nat}{M:Mx.Mat}(h:MR w v n M)(hb:Below B w w')(hB:w.heap.size<=B):MR w' v n M:=by
 obtain⟨a,cap,h1,h2,h3,h4⟩:=h;refine⟨a,cap,h1,h2,h3,?_⟩;rcases h4 with h4|⟨gm,om,e,hg,h5⟩
 ·exact .inl h4
 ·refine .inr ⟨gm,om,e,aK hg hb.size,fun i hi=>?_⟩;obtain⟨b,c,k1,k2,kA,k3⟩:=h5 i hi;refine⟨b,c,(hb.cell (p:=⟨gm,_,none⟩) (aK hg hB)).trans k1,k2,kA,?_⟩;rcases k3 with k3|⟨g,o,e,k4⟩
  ·exact .inl k3
  ·exact .inr ⟨g,o,e,k4.below hb hB⟩
def ZM(w:World)(v:Value)(m:List (List Int)):Prop:=∃a cap,v= .slice a m.length cap/\m.length<=cap/\(m=[]\/∃a0,a=some a0/\a0.block<w.heap.size/\
 ∀(i:Nat) (l:List Int),m[i]?=some l->∃b c,w.cell? (a0.add i)=some (.slice b l.length c)/\l.length<=c/\ZAt w b l)
theorem lR{B:Nat}{w w':World}(hb:Below B w w')(hB:w.heap.size<=B){a:Addr}{v:Value}(h:w.cell? a=some v):w'.cell? a=some v:=by
 have h2:=World.block_lt_of_cell? w _ h;rw[hb.cell (aK h2 hB)];exact h
theorem ZM.below{B:Nat}{w w':World}{v:Value}{m:List (List Int)}(h:ZM w v m)(hb:Below B w w')(hB:w.heap.size<=B):ZM w' v m:=by
 obtain⟨a,cap,h1,h2,h4⟩:=h;refine⟨a,cap,h1,h2,?_⟩;rcases h4 with h4|⟨a0,e,hg,h5⟩
 ·exact .inl h4
 ·refine .inr ⟨a0,e,aK hg hb.size,fun i l hl=>?_⟩;obtain⟨b,c,k1,k2,k3⟩:=h5 i l hl;exact⟨b,c,lR hb hB k1,k2,k3.below hb hB⟩
def Dn(w:World)(n:Nat)(M:Mx.Mat)(e:Ending)(w':World):Prop:=(∃gm gs cs cap,e= .returned (.slice (some ⟨gm,0,none⟩) M.length cap)/\M.length<=cap/\MB w' w.heap.size gm M.length gs cs n M)/\Below w.heap.size w w'
theorem wi{m:List (List Int)}{k:Nat}{l:List Int}(h:m[k]?=some l):m.take (k+1)=m.take k++[l]:=by
 rw[nd,h];rfl
set_option maxRecDepth 10000 in
set_option maxHeartbeats 4000000 in
theorem JC(m:List (List Int))(n:Nat)(v:Value)(hm:m.length<=1000000)(hn:n<=1000000)(hr:Mx.Rc n m)(hb:∀l∈m,∀z∈l,I64 z)(w:World)(h:ZM w v m):
  Calls Tryz.prog 72 #[v] w (Dn w n m):=by
 obtain⟨a,cap,rfl,_,h4⟩:=h;have RO':=ae (fun (l:List Int) (hl:l∈m) a cap w hz=>Ew l a cap (by rw[hr l hl];exact hn) (hb l hl) w hz);have HRC:Hid (Mx.Rc n m):=hr;have hmk:=wC m.length aa;have H4:=ae h4;clear hb hr h4;generalize hml:m.length=q at*;have HQ:=ae hml;clear hml
 go_enter Tryz.func72,Tryz.ntmps72
 go_wp2_with fail
 go_loopw [11] (fun i wr=>∃(k:Nat) (gs cs:Nat->Nat),k<=q/\i= .int .i64 ((k:Int))/\Below w.heap.size w wr/\Hid (MB wr w.heap.size w.heap.size q gs cs n (m.take k)/\∀i,i<k->0<n->w.heap.size<gs i/\gs i<wr.heap.size)) (fun i _=>q-(intOf i).toNat)
 case atStart=>
  exact⟨0,id,id,by omega,rfl,by exact bel,MB.made w w.heap.size q n id id (af _),fun i hi=>by omega⟩
 case round=>
  obtain⟨k,gs,cs,hk,rfl,hB,HR⟩:=hrel;have hlt:w.heap.size<wr.heap.size:=HR.out.1.lt;by_cases hkn:k<q
  ·have hkn2:(k:Int)<(q:Int):=by omega
   obtain⟨l,hl⟩:∃l,m[k]?=some l:=⟨m[k]'(by rw[HQ.out];omega),aV _⟩;have hll:l.length=n:=HRC.out l (bh hl);rcases H4.out with h0|⟨a0,ha,hal,hcc⟩
   ·rw[h0]at hl;simp at hl
   obtain⟨b,c,cz,hlc,hza⟩:=hcc k l hl;have cz2:=lR hB (af _) cz;subst ha;have HZA:=ae (hza.below hB (af _));have ROl:=ae (RO'.out l (bh hl) b c);rw[hll]at ROl;obtain⟨u,hu⟩:=HR.out.1.hl k hkn;have hfr:=HR.out.1.fr k;have HL:=ae (And.intro hl hll);clear hcc hl hza cz
   go_wp2_with (first|(go_at_call 142;(with_reducible refine(ROl.out _ ?_).mono ?_);(exact HZA.out.below (B:=wr.heap.size) aJ (af _));rintro e w4 ⟨⟨g4',xs,rfl,hge,hy⟩,hb4⟩;have HY:=ae (And.intro hge hy);clear hge hy;have HB4:=ae hb4;obtain⟨g4,rfl⟩:=mob hb4;clear hb4))
   go_roundw
   case rel=>
    have hp:=(HR.out.1.below HB4.out (af _)).push (g:=g4') (c:=l.length) (b:=some ⟨g4',0,none⟩) (zs:=l) (by rw[aP,HQ.out];omega) HL.out.2 aa (AD.some _ _) (fun h0=>⟨rfl,⟨xs,HY.out.2⟩,by have:=HY.out.1;omega,by have:=HY.out.1;omega,fun i hi=>by
     have h1:=(HR.out.2 i (by rw[aP,HQ.out]at hi;omega) h0).2;have:=HY.out.1;omega⟩)
    have hkl:(m.take k).length=k:=by rw[aP,HQ.out];omega
    rw[<-wi HL.out.1,hkl]at hp;have hg4:g4'<(more wr g4).heap.size:=HY.out.2.lt;have e5:(more wr g4).setCell ⟨w.heap.size,k,none⟩ (.slice (some ⟨g4',0,none⟩) n l.length)=more (wr.setCell ⟨w.heap.size,k,none⟩ (.slice (some ⟨g4',0,none⟩) n l.length)) g4:=jW _ _ _ _ hlt;rw[e5]at hp;rw[HL.out.2]at hp;refine⟨k+1,_,_,by omega,by go_num,by exact bel,hp,fun i hi h0=>?_⟩;have hsz:(more (wr.setCell ⟨w.heap.size,k,none⟩ (.slice (some ⟨g4',0,none⟩) n n)) g4).heap.size=(more wr g4).heap.size:=by simp
    rw[hsz];by_cases e:i=k
    ·rw[aj e];have:=HY.out.1;omega
    ·rw[ah e];have h1:=HR.out.2 i aa h0;have:wr.heap.size<=(more wr g4).heap.size:=HB4.out.size;omega
   case measure=>simp[intOf];omega
  ·obtain rfl:k=q:=by omega
   have hkn2:¬(k:Int)<(k:Int):=by omega
   go_wp2_with fail
   go_ret
   refine⟨⟨w.heap.size,gs,cs,k,by rw[HQ.out];rfl,by rw[HQ.out];exact af _,?_⟩,hB⟩;have h1:=HR.out.1;rw[cR (by rw[HQ.out];exact af _)]at h1;rw[HQ.out];exact h1
end
section
open Go.RowKit Go.BigFrame
attribute [local go_sem ↓] Go.wp_at_zero Go.wp_at_succ
def iS(l:List IV):List Value:=l.flatMap fun x=>[.bool x.s,.slice x.a x.n x.cap]
theorem Ai(l m:List IV):iS (l++m)=iS l++iS m:=by simp[iS]
theorem zl:∀l:List IV,(iS l).length=l.length*2
 |[]=>rfl
 |x::l=>by
  show(([.bool x.s,.slice x.a x.n x.cap]:List Value)++iS l).length=_;rw[cq,zl l,dh];simp;omega
theorem vR:∀(l:List IV) (k:Nat) (x:IV),l[k]?=some x->(iS l)[k*2]?=some (.bool x.s)/\(iS l)[k*2+1]?=some (.slice x.a x.n x.cap)
 |y::l,0,x,h=>by
  simp at h;subst h;exact⟨rfl,rfl⟩
 |y::l,k+1,x,h=>by
  have ih:=vR l k x (by simpa using h);rw[show(k+1)*2=k*2+2 by omega];exact ih
def mV(w:World)(base:Nat)(v:Value)(l:List IV):Prop:=w.ownsRow base 62 2 v l.length (iS l)
theorem mV.Cv(W:World)(base b:Nat)(hb:b=W.heap.size)(h:base<=b):mV (W.alloc (.cells #[] 62)) base (.slice (some ⟨b,0,none⟩) 0 0) []:=by
 subst hb;exact⟨by simp[iS],.inr ⟨W.heap.size,0,#[],rfl,h,heap_alloc_new W (.cells #[] 62),af _,by simp[maxLen],by simp,by simp[iS]⟩⟩
theorem te:∀(l:List IV) (j:Nat) (u:Value),(iS l)[j]?=some u->∃k x,l[k]?=some x/\((j=k*2/\u= .bool x.s)\/(j=k*2+1/\u= .slice x.a x.n x.cap))
 |y::l,0,u,h=>⟨0,y,rfl,.inl ⟨rfl,by simp[iS]at h;exact h.symm⟩⟩
 |y::l,1,u,h=>⟨0,y,rfl,.inr ⟨rfl,by simp[iS]at h;exact h.symm⟩⟩
 |y::l,j+2,u,h=>by
  obtain⟨k,x,h1,h2⟩:=te l j u h;rcases h2 with⟨h2,h3⟩|⟨h2,h3⟩
  ·exact⟨k+1,x,h1,.inl ⟨by omega,h3⟩⟩
  ·exact⟨k+1,x,h1,.inr ⟨by omega,h3⟩⟩
theorem mV.ro{w:World}{base:Nat}{v:Value}{l:List IV}(h:mV w base v l){zs:List Int}(hl:l.length=zs.length)(hz:∀(k:Nat) (x:IV) (z:Int),l[k]?=some x->zs[k]?=some z->IZ w x z):
  ∃b g c,v= .slice b zs.length c/\zs.length<=c/\(0<zs.length->b=some ⟨g,0,none⟩/\base<=g/\RO w g zs):=by
 obtain⟨h0,h⟩:=h;rcases h with⟨hv,hn⟩|⟨g,cap,cur,rfl,hb,hg,hle,hm,hsz,htk⟩
 ·exact⟨none,0,0,by rw[hv,show zs.length=0 by omega],by omega,fun h1=>by omega⟩
 ·refine⟨_,g,cap,by rw[hl],by omega,fun _=>⟨rfl,hb,l,(dz.1 hg).1,hl,fun k x hk=>?_,fun k x hk=>?_,fun k=>?_,hz⟩⟩
  ·have h1:=(vR l k x hk).1;have hk2:=(cw.1 hk).1;rw[cell_of_row w g _ cur _ (0,0) hg];rw[<-htk,fS aa,dE]at h1;exact h1
  ·have h1:=(vR l k x hk).2;have hk2:=(cw.1 hk).1;rw[cell_of_row w g _ cur _ (0,0) hg];rw[<-htk,fS aa,dE]at h1;exact h1
  ·simp only[World.frozen?];rw[hg];simp
def CI(w:World)(g o:Nat)(l:List IV):Prop:=∀(k:Nat) (x:IV),l[k]?=some x->w.cell? ⟨g,o+k*2,none⟩=some (.bool x.s)/\w.cell? ⟨g,o+k*2+1,none⟩=some (.slice x.a x.n x.cap)
theorem RA.ci{w:World}{g o:Nat}{zs:List Int}(h:RA w g o zs):∃l:List IV,l.length=zs.length/\CI w g o l/\∀(k:Nat) (x:IV) (z:Int),l[k]?=some x->zs[k]?=some z->IZ w x z:=by
 have key:∀k:Nat,∃x:IV,∀z,zs[k]?=some z->w.cell? ⟨g,o+k*2,none⟩=some (.bool x.s)/\w.cell? ⟨g,o+k*2+1,none⟩=some (.slice x.a x.n x.cap)/\IZ w x z:=fun k=>by
  cases e:zs[k]? with
  |none=>exact⟨⟨false,none,0,0⟩,fun z h=>by cases h⟩
  |some z=>
   obtain⟨x,hx⟩:=h.c k z e;exact⟨x,fun z' hz'=>by cases hz';exact hx⟩
 obtain⟨f,hf⟩:=Classical.axiomOfChoice key;have hget:∀(k:Nat) (x:IV),((List.range zs.length).map f)[k]?=some x->k<zs.length/\x=f k:=fun k x hx=>by
  rw[db]at hx;by_cases hk:k<zs.length
  ·rw[tX hk]at hx;simp at hx;exact⟨hk,hx.symm⟩
  ·rw[gw dK]at hx;cases hx
 refine⟨(List.range zs.length).map f,by simp,fun k x hx=>?_,fun k x z hx hz=>?_⟩
 ·obtain⟨hk,rfl⟩:=hget k x hx;have:=hf k _ (getD_some hk);exact⟨this.1,this.2.1⟩
 ·obtain⟨hk,rfl⟩:=hget k x hx;exact(hf k z hz).2.2
theorem CI.below{B:Nat}{w w':World}{g o:Nat}{l:List IV}(h:CI w g o l)(hb:Below B w w')(hg:g<B):CI w' g o l:=fun k x hx=>
 ⟨(hb.cell (p:=⟨g,_,none⟩) hg).trans (h k x hx).1,(hb.cell (p:=⟨g,_,none⟩) hg).trans (h k x hx).2⟩
theorem Al{w0 w:World}{base:Nat}{v:Value}{l:List IV}(hown:mV w base v l)(hB:Below base w0 w)(hbase:base<=w.heap.size)(t tx:TypeId)(ht:Tryz.prog.underlying t=some (.slice 62))(hk:Tryz.prog.underlying tx=some (.slice 62))
  (l2:List IV) (g o c n:Nat) (hn:n=l2.length) (h2:CI w g o l2) (hlen:l.length+l2.length<=4000000000)
  {ops:Array Oper} {rest:List Oper} {oo:Oper} {a:Act} {Q:Exit->Act->World->Prop} (hgd:oo.guard=none) (s y:Operand)
  (ho:oo.op= .call {callee:=.builtin .append,args:=#[s,y],argTypes:=#[t,tx]})
  (hs:a.eval s=v) (hx:a.eval y= .slice (some ⟨g,o,none⟩) n c)
  (h:∀v' w',mV w' base v' (l++l2)->Below base w0 w'->base<=w'.heap.size->w.heap.size<=w'.heap.size->(∀b,b<w.heap.size->some b≠v.ownBlock->w'.heap[b]?=w.heap[b]?)->(v'= .slice none 0 0↔v= .slice none 0 0/\l2.length=0)->wpList Tryz.prog ops Q rest (a.put oo.dst v') w'):wpList Tryz.prog ops Q (oo::rest) a w:=by
 obtain⟨i0,hi0,hz0,hz1,hz2⟩:=iZ ze;subst hn;refine mE hgd s y t tx ho base 62 62 i0 _ 2 32 ht hk hi0 hz0 hz1 hz2 rfl aa v l.length (iS l) hs hown
  ⟨g,o,none⟩ l2.length c (iS l2) hx (by rw[zl]) ?_ ?_ sP aa hbase ?_
 ·intro j u hu;have hj:(⟨g,o,none⟩:Addr).add j=⟨g,o+j,none⟩:=by unfold Addr.add;split<;>simp_all
  rw[hj];obtain⟨k,x,h3,⟨rfl,rfl⟩|⟨rfl,rfl⟩⟩:=te l2 j u hu
  ·exact(h2 k x h3).1
  ·exact(h2 k x h3).2
 ·intro u hu;obtain⟨j,hj⟩:=List.getElem?_of_mem hu;obtain⟨k,x,h3,⟨rfl,rfl⟩|⟨rfl,rfl⟩⟩:=te l2 j u hj<;>rfl
 ·intro v' w' h1 h3 hnn;have hsz:=h3.size;refine h v' w' (by unfold mV;rw[Ai,cq];exact h1) (hB.grown h3 hbase ?_) aa hsz (fun b hb hne=>h3.block b hb hne) hnn;intro k hk;exact(hown.lt k hk).1
def RV(w:World)(v:Value)(n:Nat)(zs:List Int):Prop:=∃b c,v= .slice b n c/\n<=c/\zs.length=n/\AD b/\(n=0\/∃g o,b=some ⟨g,o,none⟩/\RA w g o zs)
theorem RV.below{B:Nat}{w w':World}{v:Value}{n:Nat}{zs:List Int}(h:RV w v n zs)(hb:Below B w w')(hB:w.heap.size<=B):RV w' v n zs:=by
 obtain⟨b,c,h1,h2,h3,hA,h4⟩:=h;refine⟨b,c,h1,h2,h3,hA,?_⟩;rcases h4 with h4|⟨g,o,e,h5⟩
 ·exact .inl h4
 ·exact .inr ⟨g,o,e,h5.below hb hB⟩
def RPost(w:World)(n:Nat)(zs:List Int)(e:Ending)(w':World):Prop:=(∃b g c,e= .returned (.slice b n c)/\n<=c/\AD b/\(0<n->b=some ⟨g,0,none⟩/\w.heap.size<=g/\RO w' g zs))/\Below w.heap.size w w'
theorem run_eql_slice_nil{P:Program}(w:World)(t e:TypeId)(a:Option Addr)(l c:Nat)(h:P.underlying t=some (.slice e)):(binOp .eql t (.slice a l c) (.slice none 0 0)).run P w= .ok (.bool a.isNone) w:=by
 simp only[binOp];simp[run_equal_slice_nil w t e a l c h]
@[go_sem] theorem eql_row (a : Option Addr) (l c : Nat) (w : World) : (binOp .eql 147 (.slice a l c) (.slice none 0 0)).run Tryz.prog w = .ok (.bool a.isNone) w:=run_eql_slice_nil w _ _ a l c Tryz.underlying147
theorem mV.ad{w:World}{base:Nat}{v:Value}{l:List IV}(h:mV w base v l)(h0:v≠ .slice none 0 0):∃b c,v= .slice b l.length c/\AD b:=by
 rcases h.2 with⟨hv,hn⟩|⟨g,cap,cur,hv,_⟩
 ·exact absurd hv h0
 ·exact⟨_,cap,hv,AD.some _ _⟩
set_option maxRecDepth 10000 in
set_option maxHeartbeats 4000000 in
theorem Cs(v:Value)(n:Nat)(zs:List Int)(hn:n<=1000000)(w:World)(h:RV w v n zs):
  Calls Tryz.prog 189 #[v] w (RPost w n zs):=by
 obtain⟨b,c,rfl,hc,hz,hA,h4⟩:=h;obtain⟨g,o,rfl⟩:=hA
 ·obtain ⟨l, hl, hci, hiz⟩ : ∃ l : List IV, l.length = zs.length /\ CI w g o l /\ (∀ (k : Nat) (x : IV) (z : Int), l[k]? = some x -> zs[k]? = some z -> IZ w x z) /\ (n = 0 \/ g < w.heap.size) := by
   rcases h4 with h4|⟨g',o',e,h5⟩
   ·subst h4;have hz0:zs=[]:=gu hz;subst hz0;exact⟨[],rfl,fun k x hx=>by(simp at hx),fun k x z hx=>by(simp at hx), .inl rfl⟩
   ·cases e;obtain⟨l,h6,h7,h8⟩:=h5.ci;exact⟨l,h6,h7,h8, .inr h5.lt⟩
  have HCI:=ae hci;have HIZ:Hid _:=hiz;have HLN:=ae (hl.trans hz);have HZN:=ae hz;have CIb:Hid (∀W,Below w.heap.size w W->CI W g o l):=fun W hW k x hx=>by
   rcases HIZ.out.2 with h|h
   ·rw[gw (by rw[HLN.out,h];omega)]at hx;cases hx
   ·exact⟨(hW.cell (p:=⟨g,_,none⟩) h).trans (HCI.out k x hx).1,(hW.cell (p:=⟨g,_,none⟩) h).trans (HCI.out k x hx).2⟩
  clear h4 hci hiz hl hz
  go_enter Tryz.func189,Tryz.ntmps189
  go_wp2_with (at_builtin;go_must (refine Al (w0:=w) (base:=w.heap.size) (l:=[]) ?_ ?_ ?_ 147 147 Tryz.underlying147 Tryz.underlying147 l g o c n HLN.out.symm ?_ ?_ rfl (.tmp 5) (.tmp 6) rfl (by rfl) (by rfl) ?_);(exact mV.Cv _ _ _ (by first|rfl|(simp;done)) (by first|omega|(simp;done)));(exact bel);(focus(simp));(exact CIb.out _ aJ);(focus(rw[HLN.out];simp;omega));intro v5 w5 hown5 hB5 hz5 hs5 hk5 hn5;have HO5:=ae hown5;have HN5:Hid (v5≠Value.slice none 0 0):=(fun e=>by have h9:=(hn5.1 e).1;cases h9);clear hown5 hk5 hn5)
  go_ret
  rw[cT]at HO5;obtain⟨b',c',hv,hA⟩:=HO5.out.ad HN5.out;obtain⟨b,g',c2,h1,h2,h3⟩:=HO5.out.ro (zs:=zs) (HLN.out.trans HZN.out.symm) (fun k x z hx hz=>(HIZ.out.1 k x z hx hz).below hB5 (af _));rw[HZN.out]at h1 h2 h3;have hA2:AD b:=by rw[h1]at hv;cases hv;exact hA
  exact⟨⟨b,g',c2,by rw[<-h1];rfl,h2,hA2,h3⟩,hB5⟩
end
section
open Go.RowKit Go.BigFrame
attribute [local go_sem ↓] Go.wp_at_zero Go.wp_at_succ
theorem RV.get{w:World}{v:Value}{n:Nat}{zs:List Int}(h:RV w v n zs):∃g o c l,v= .slice (some ⟨g,o,none⟩) n c/\n<=c/\zs.length=n/\l.length=n/\(∀W,Below w.heap.size w W->CI W g o l)/\∀W,Below w.heap.size w W->∀(k:Nat) (x:IV) (z:Int),l[k]?=some x->zs[k]?=some z->IZ W x z:=by
 obtain⟨b,c,h1,h2,h3,⟨g,o,rfl⟩,h4⟩:=h;rcases h4 with h4|⟨g',o',e,h5⟩
 ·exact⟨g,o,c,[],h1,h2,h3,by rw[h4];rfl,fun W _ k x hx=>by(simp at hx),fun W _ k x z hx=>by(simp at hx)⟩
 ·cases e;obtain⟨l,h6,h7,h8⟩:=h5.ci;exact⟨g,o,c,l,h1,h2,h3,h6.trans h3,fun W hW=>h7.below hW h5.lt,fun W hW k x z hx hz=>(h8 k x z hx hz).below hW (af _)⟩
end
section
namespace Mx
def Bd(X:Nat)(M:Mat):Prop:=∀i j,(at' M i j).natAbs<=X
theorem Bd.mono{X Y:Nat}{M:Mat}(h:Bd X M)(hxy:X<=Y):Bd Y M:=fun i j=>bc (h i j) hxy
theorem yo{X:Nat}{M:Mat}(h:Bd X M){i j:Nat}(hi:i<M.length)(hj:j<M.length):Bd X (swp M i j):=fun k l=>by
 rw[eM hi hj];split
 ·exact h _ _
 ·split<;>exact h _ _
theorem zn{n X Q:Nat}{r c s:Nat}{M:Mat}(h:Rc n M)(hr:r<M.length)(hb:Bd X M)(hq:∀i,s<=i->i<M.length->(at' M i c/at' M r c).natAbs<=Q){k:Nat}(hk:s+k<=M.length):Bd (X*(Q+1)) (fI r c s M k):=fun i j=>by
 rw[mO h hr hk];have h1:=hb i j;have h2:X<=X*(Q+1):=mu X (Nat.succ_pos Q);split
 ·rename_i h3;have h4:=hq i h3.1 aa;have h5:=hb r j;have h6:(at' M i c/at' M r c*at' M r j).natAbs<=Q*X:=by
   rw[eL];exact bZ h4 h5
  rw[bs]at h6;rw[fU,gV];omega
 ·omega
theorem JW{X r c:Nat}{M:Mat}(h:Bd X M)(hr:r<M.length):Bd X (yu r c M):=fun i j=>by
 unfold yu;split
 ·rw[MD _ _ _ _ _ hr];split
  ·rw[LM,Int.natAbs_neg];exact h r j
  ·exact h i j
 ·exact h i j
theorem rq(x p:Int):(x/p).natAbs<=x.natAbs:=Int.natAbs_ediv_le_natAbs x p
theorem div_pos{x p:Int}(hx:0<=x)(hp:0<p):(x/p).natAbs*p.natAbs<=x.natAbs:=by
 have h1:=Int.ediv_nonneg hx (qD hp);have h2:=Int.ediv_mul_le x (show p≠0 by omega);have h3:((x/p).natAbs:Int)*(p.natAbs:Int)=x/p*p:=by
  rw[ye h1,ye (qD hp)]
 omega
theorem KC{x p:Int}(hp:0<p):(x/p).natAbs*p.natAbs<=x.natAbs+p.natAbs:=by
 by_cases hx:0<=x
 ·have:=div_pos hx hp;omega
 ·have h1:=pQ (x:=x) (p:=p) aa;have h2:x/p<=0:=by
   apply Int.le_of_not_gt;intro h;have:=Int.mul_le_mul_of_nonneg_right (show 1<=x/p by omega) (qD hp);omega
  have h3:((x/p).natAbs:Int)*(p.natAbs:Int)= -(x/p*p):=by
   rw[show((x/p).natAbs:Int)= -(x/p) by omega,ye (qD hp),gH]
  omega
theorem Ln(M:Mat)(i:Nat):M.set i (rw M i)=M:=by
 apply qE;intro k;by_cases e:i=k
 ·subst e;by_cases h:i<M.length
  ·rw[lj h];unfold rw;rw[aF,aV h];rfl
  ·rw[gw dK,gw aa]
 ·rw[rO e]
theorem e11(e c:Nat):11*(e*11^c)=e*11^(c+1):=by rw[dw,bs (11^c) 11,lG]
structure Round(r c t:Nat)(M:Mat):Prop where
 hr:r<M.length
 ht:t<M.length
 rt:r<=t
 ne:at' M t c≠0
 least:∀i,r<=i->i<M.length->at' M i c≠0->(at' M t c).natAbs<=(at' M i c).natAbs
 other:∃i,r<=i/\i<M.length/\i≠t/\at' M i c≠0
 pr:at' (elim r c (swp M r t)) r c=at' M t c
 tto:∀i,r<i->i<M.length->∃j,r<=j/\j<M.length/\j≠t/\at' (swp M r t) i c=at' M j c/\at' (elim r c (swp M r t)) i c=at' M j c%at' M t c
 fro:∀j,r<=j->j<M.length->j≠t->∃i,r<i/\i<M.length/\at' (elim r c (swp M r t)) i c=at' M j c%at' M t c
theorem yB{n r c t:Nat}{M:Mat}(h:Rc n M)(h1:(pick r c M).1=some t)(h2:(pick r c M).2≠1):Round r c t M:=by
 obtain⟨k1,k2,k3,k4,k5,_,k7⟩:=(lX c r M (M.length-r)).yes t h1;have h2':2<=(scan c r M (M.length-r)).2:=by unfold pick at h2;omega
 obtain⟨i,i1,i2,i3,i4⟩:=k7 h2';clear k7;have hr:r<M.length:=by omega
 have ht:t<M.length:=by omega
 have hS:=jV h hr ht;have hSl:(swp M r t).length=M.length:=cW _ _ _;have hSr:at' (swp M r t) r c=at' M t c:=by
  rw[eM hr ht];split
  ·rename_i e;rw[e]
  ·rw[aj rfl]
 have hat:∀i,r<i->i<M.length->at' (elim r c (swp M r t)) i c=at' (swp M r t) i c%at' M t c:=fun i h3 h4=>by
  unfold elim;rw[mO hS aa aa,aj aa,hSr,(pQ k3).2.2]
 refine⟨hr,ht,k1,k3,fun i h3 h4 h5=>k4 i h3 aa h5,⟨i,i1,by omega,i3,i4⟩,?_,fun i h3 h4=>?_,fun j h3 h4 h5=>?_⟩
 ·unfold elim;rw[mO hS aa aa,ah aa,hSr]
 ·rw[hat i h3 h4,eM hr ht];by_cases e:i=t
  ·rw[aj e];exact⟨r,af _,hr,by omega,rfl,rfl⟩
  ·rw[ah e,ah aa];exact⟨i,by omega,h4,e,rfl,rfl⟩
 ·by_cases e:j=r
  ·refine⟨t,by omega,ht,?_⟩;rw[hat t aa ht,eM hr ht,aj rfl,e]
  ·refine⟨j,by omega,h4,?_⟩;rw[hat j aa h4,eM hr ht,ah h5,ah e]
def J(K r c:Nat)(M:Mat):Prop:=∃X O i0,Bd X M/\X<=K/\r<=i0/\i0<M.length/\(at' M i0 c).natAbs=O/\(∀i,r<=i->i<M.length->i≠i0->0<=at' M i c/\at' M i c<(O:Int))/\
 ∀t,(pick r c M).1=some t->(pick r c M).2≠1->X*O*O*(at' M t c).natAbs*(if at' M i0 c<0 then 3 else 1)<=K
def Jn(K r c:Nat)(M:Mat):Prop:=(∃X,1<=X/\Bd X M/\6*X^5<=K)\/J K r c M
theorem pow5(X:Nat):X^5=X*X*X*X*X:=by
 simp[dw]
theorem Kk{X:Nat}(h:1<=X):X<=X^5:=by
 have:=cE h (show 1<=5 by omega);simpa using this
theorem I8{K r c:Nat}{M:Mat}(h:Jn K r c M):Bd K M:=by
 rcases h with⟨X,h1,h2,h3⟩|⟨X,O,i0,h1,h2,_⟩
 ·exact h2.mono (by have:=Kk h1;omega)
 ·exact h1.mono h2
theorem vI{n K r c t X Q:Nat}{M:Mat}(h:Rc n M)(R:Round r c t M)(hb:Bd X M)(hq:∀j,r<=j->j<M.length->j≠t->(at' M j c/at' M t c).natAbs<=Q)(hK:X*(Q+1)<=K)
  (hc:∀t',(pick r c (elim r c (swp M r t))).1=some t'->(pick r c (elim r c (swp M r t))).2≠1->X*(Q+1)*(at' M t c).natAbs*(at' M t c).natAbs*(at' (elim r c (swp M r t)) t' c).natAbs*(if at' M t c<0 then 3 else 1)<=K):
  (∀k,r+1+k<=M.length->Bd K (fI r c (r+1) (swp M r t) k))/\J K r c (elim r c (swp M r t)):=by
 have hSl:(swp M r t).length=M.length:=cW _ _ _;have hr:=R.hr;have hSr:at' (swp M r t) r c=at' M t c:=by
  rw[eM R.hr R.ht];split
  ·rename_i e;rw[e]
  ·rw[aj rfl]
 have key:∀k,r+1+k<=M.length->Bd (X*(Q+1)) (fI r c (r+1) (swp M r t) k):=fun k hk=>
  zn (jV h R.hr R.ht) aa (yo hb R.hr R.ht) (fun i h1 h2=>by
   obtain⟨j,j1,j2,j3,j4,_⟩:=R.tto i aa aa;rw[hSr,j4];exact hq j j1 j2 j3) aa
 refine⟨fun k hk=>(key k hk).mono hK,X*(Q+1),(at' M t c).natAbs,r,?_,hK,af _,?_,by rw[R.pr],fun i h1 h2 h3=>?_,fun t' h1 h2=>?_⟩
 ·unfold elim;exact key _ aa
 ·unfold elim;rw[ir,hSl];exact R.hr
 ·have hl:(elim r c (swp M r t)).length=M.length:=by unfold elim;rw[ir,hSl]
  obtain⟨j,_,_,_,_,j5⟩:=R.tto i aa aa;rw[j5];exact⟨qH _ R.ne,qG _ R.ne⟩
 ·rw[R.pr];exact hc t' h1 h2
theorem vO{n r c t t':Nat}{M:Mat}(h:Rc n M)(R:Round r c t M)(h1:(pick r c (elim r c (swp M r t))).1=some t')(h2:(pick r c (elim r c (swp M r t))).2≠1):
  (at' (elim r c (swp M r t)) t' c).natAbs<(at' M t c).natAbs/\∀i,r<=i->i<M.length->at' (elim r c (swp M r t)) i c≠0->(at' (elim r c (swp M r t)) t' c).natAbs<=(at' (elim r c (swp M r t)) i c).natAbs:=by
 have hE:=pA h (c:=c) R.hr R.ht;have R':=yB hE.1 h1 h2;have hl:=hE.2;have small:∀i,r<i->i<M.length->(at' (elim r c (swp M r t)) i c).natAbs<(at' M t c).natAbs:=fun i h3 h4=>by
  obtain⟨j,_,_,_,_,j5⟩:=R.tto i h3 h4;rw[j5];have:=qH (at' M j c) R.ne;have:=qG (at' M j c) R.ne;omega
 refine⟨?_,fun i h3 h4 h5=>R'.least i h3 aa h5⟩;by_cases e:t'=r
 ·obtain⟨i,i1,i2,i3,i4⟩:=R'.other;have h5:=R'.least i i1 i2 i4;have h6:=small i aa aa;rw[e,R.pr]at h5⊢;omega
 ·exact small t' (by have:=R'.rt;omega) (by have:=R'.ht;omega)
theorem Kl{n K r c t:Nat}{M:Mat}(h:Rc n M)(hj:Jn K r c M)(h1:(pick r c M).1=some t)(h2:(pick r c M).2≠1):
  (∀k,r+1+k<=M.length->Bd K (fI r c (r+1) (swp M r t) k))/\Jn K r c (elim r c (swp M r t)):=by
 have R:=yB h h1 h2;have hP:1<=(at' M t c).natAbs:=by have:=R.ne;omega
 have go:∀{A B:Prop},A/\J K r c (elim r c (swp M r t))->(A->B)->B/\Jn K r c (elim r c (swp M r t)):=fun x f=>⟨f x.1, .inr x.2⟩;rcases hj with⟨X,x1,x2,x3⟩|⟨X,O,i0,x1,x2,x3,x4,x5,x6,x7⟩
 ·refine go (vI (X:=X) (Q:=X) h R x2 (fun j j1 j2 j3=>bc (rq _ _) (x2 j c)) ?_ fun t' k1 k2=>?_) id
  ·have h3:X*(X+1)<=X*(2*X):=eH X aa;have h4:X*X<=X^5:=by
    have:=cE x1 (show 2<=5 by omega);rw[Nat.pow_two]at this;exact this
   have h5:X*(2*X)=2*(X*X):=by rw[lG]
   omega
  ·have h3:=(vO h R k1 k2).1;have h4:=x2 t c;have h5:X*(X+1)<=2*(X*X):=by
    have:X*(X+1)<=X*(2*X):=eH X aa;rwa[lG]at this
   have h6:X*(X+1)*(at' M t c).natAbs*(at' M t c).natAbs*(at' (elim r c (swp M r t)) t' c).natAbs*(if at' M t c<0 then 3 else 1)<=2*(X*X)*X*X*X*3:=
    bZ (bZ (bZ (bZ h5 h4) h4) aa) (by split<;>omega)
   have h7:2*(X*X)*X*X*X*3=6*X^5:=by
    rw[pow5];simp only[cg,bs]
   omega
 ·have ht0 : t ≠ i0 := fun e => by
   obtain⟨i,i1,i2,i3,i4⟩:=R.other;have h3:=R.least i i1 i2 i4;have h4:=x6 i i1 i2 aa;rw[e]at h3;omega
  have h3:=x6 t R.rt R.ht ht0;have hk:=x7 t h1 h2;generalize hpe:at' M t c=p at*;generalize hae:at' M i0 c=a at*;have hp0:0<p:=by have:=R.ne;rw[hpe]at this;omega
  obtain⟨P,rfl⟩:∃P:Nat,p=P:=⟨p.natAbs,by omega⟩;rw[lu]at*;have hPO:P<O:=by omega
  have hO2:O<=O*O:=mu O aa;have hdiv:O/P*P<=O:=B8 O P;have hdv:O/P<=O:=qy O P;have hneg:¬(P:Int)<0:=by omega
  by_cases hs:a<0
  ·rw[aj hs]at hk;have e3:X*O*O*P*3=3*(X*O*O*P):=bs _ _;refine go (vI (X:=X) (Q:=O/P+1) h R x1 (fun j j1 j2 j3=>?_) ?_ fun t' k1 k2=>?_) id
   ·rw[hpe];have h4:(at' M j c/(P:Int)).natAbs*P<=O+P:=by
     have h5:=KC (x:=at' M j c) (p:=(P:Int)) hp0;rw[lu]at h5;by_cases e:j=i0
     ·rw[e,hae]at h5⊢;omega
     ·have:=x6 j j1 j2 e;omega
    have h5:(at' M j c/(P:Int)).natAbs<=(O+P)/P:=(rP aa).2 h4;rwa[Nat.add_div_right _ aa]at h5
   ·have h4 : X * (O / P + 1 + 1) <= X * (3 * (O * O * P)) := eH X (by
     have:O*O<=O*O*P:=mu _ aa;omega)
    have h5:X*(3*(O*O*P))=3*(X*O*O*P):=by
     simp only[cg,bs,lG]
    omega
   ·have h4:=(vO h R k1 k2).1;rw[hpe]at h4⊢;rw[lu]at h4⊢;rw[ah hneg,gV];generalize(at' (elim r c (swp M r t)) t' c).natAbs=P' at h4⊢;have h5:(O/P+1+1)*P<=3*O:=by rw[bC,bC];omega
    have h6:X*((O/P+1+1)*P)*P*P'<=X*(3*O)*P*O:=bZ (bZ (eH X h5) (af _)) aa;have h7:X*(3*O)*P*O=3*(X*O*O*P):=by
     simp only[cg,bs,lG]
    have h8:X*(O/P+1+1)*P*P*P'=X*((O/P+1+1)*P)*P*P':=by rw[cg X]
    omega
  ·rw[ah hs,gV]at hk;have haO:a=(O:Int):=by omega
   refine go (vI (X:=X) (Q:=O/P) h R x1 (fun j j1 j2 j3=>?_) ?_ fun t' k1 k2=>?_) id
   ·rw[hpe];have h4:(at' M j c/(P:Int)).natAbs*P<=O:=by
     by_cases e:j=i0
     ·rw[e,hae,haO];have h5:=div_pos (x:=(O:Int)) (p:=(P:Int)) aa hp0;rw[lu,lu]at h5;exact h5
     ·have h6:=x6 j j1 j2 e;have h5:=div_pos (x:=at' M j c) (p:=(P:Int)) h6.1 hp0;rw[lu]at h5;omega
    exact(rP aa).2 h4
   ·have h4 : X * (O / P + 1) <= X * (O * O * P) := eH X (by
     have h6:O*O<=O*O*P:=mu _ aa;have h7:2*O<=O*O:=cU O aa;omega)
    have h5:X*(O*O*P)=X*O*O*P:=by simp only[cg]
    omega
   ·obtain⟨h4,h5⟩:=vO h R k1 k2;obtain⟨m0,m1,m2,m3⟩:=R.fro i0 x3 x4 (Ne.symm ht0);have h6:=h5 m0 aa m2;rw[m3,hae,haO]at h6;rw[hpe]at h4 h6⊢;rw[lu]at h4⊢;rw[ah hneg,gV];generalize(at' (elim r c (swp M r t)) t' c).natAbs=P' at h4 h6⊢;have h7:2*P'<=O:=by
     have e1:((O:Int)%(P:Int))=((O%P:Nat):Int):=by simp
     rw[e1,lu]at h6;have e2:=jQ O P;have e3:1<=O/P:=(rP aa).2 aa;have e4:=ed O (show 0<P by omega);by_cases h0:O%P=0
     ·have e5 : 2 <= O / P := by
       apply cQ;intro hlt;have:O/P=1:=by omega
       rw[this,h0]at e2;omega
      have e6:=eH P e5;omega
     ·have e5:=h6 aa;have e6:=eH P e3;omega
    have h8:(O/P+1)*P<=2*O:=by rw[bC];omega
    have h9:X*((O/P+1)*P)*P*P'<=X*(2*O)*P*P':=bZ (bZ (eH X h8) (af _)) (af _);have h10:X*(2*O)*P*P'=X*O*P*(2*P'):=by simp only[cg,bs,lG]
    have h11:X*O*P*(2*P')<=X*O*P*O:=eH _ h7;have h12:X*O*P*O=X*O*O*P:=yf _ _ _;have h13:X*(O/P+1)*P*P*P'=X*((O/P+1)*P)*P*P':=by rw[cg X]
    omega
theorem KH{n K r c:Nat}{M:Mat}(h:Rc n M)(hj:Jn K r c M):Bd K (kv r c M):=by
 refine zE (n:=n) (r:=r) (c:=c) (fun N=>Jn K r c N) (fun N hN hq t ht h2=>(Kl hN hq ht h2).2) (fun N=>Bd K N) (fun N _ hq _=>I8 hq) (fun N hN hq t ht h2=>?_) _ M rfl h hj;obtain⟨k1,k2,_⟩:=(lX c r N (N.length-r)).yes t ht;exact yo (I8 hq) aa aa
theorem Hs{n K r c:Nat}{M:Mat}(h:Rc n M)(hr:r<M.length)(hb:Bd K M){k:Nat}(hk:k<=M.length):Bd (K*(K+1)) (fI r c 0 M k):=
 zn h hr hb (fun i _ _=>bc (rq _ _) (hb i c)) aa
def nb(X:Nat):Nat:=6*X^5*(6*X^5+1)
theorem nb_ge(X:Nat):6*X^5<=nb X:=mu _ aa
theorem LP{e:Nat}(h:6<=e):nb (2^e)<=2^(11*e):=by
 have h1:6*(2^e)^5+1<=2^(5*e+3):=by
  rw[<-Nat.pow_mul,gy,bs e 5];have:=fl (a:=2) (n:=5*e) aa;omega
 have h2:nb (2^e)<=2^(5*e+3)*2^(5*e+3):=bZ aa h1;rw[<-gy]at h2;exact bc h2 (cE aa aa)
theorem JQ{n X r c:Nat}{M:Mat}(h:Rc n M)(hr:r<M.length)(h1:1<=X)(hb:Bd X M):Bd (nb X) (step r c M).2:=by
 have hc:=KH h (K:=6*X^5) (r:=r) (c:=c) (.inl ⟨X,h1,hb,af _⟩);have hre:=(zD (r:=r) (c:=c) h).1.re;unfold step;simp only[];split
 ·exact hc.mono (nb_ge X)
 ·have hl:r<(kv r c M).length:=by rw[hre.len];exact hr
  have h2:=Aw (c:=c) hl;exact Hs (h2.rc (hre.rc h)) (by rw[h2.len];exact hl) (JW hc hl) (by rw[h2.len];omega)
theorem Ly{k c r:Nat}{M:Mat}(h:r<M.length):red (k+1) c (r,M)=red k (c+1) (step r c M):=by
 conv=>lhs;unfold red
 rw[aj h]
theorem GA{k c r:Nat}{M:Mat}(h:¬r<M.length):red k c (r,M)=(r,M):=by
 cases k with
 |zero=>rfl
 |succ k=>unfold red;rw[ah h]
end Mx
end
section
open Go.RowKit Go.BigFrame
attribute [local go_sem ↓] Go.wp_at_zero Go.wp_at_succ
theorem gO{z:Int}{e:Nat}(h:z.natAbs<=2^e)(he:e<=6000000000000):Fit z:=by
 refine⟨e/32+1,by omega,ly h ?_⟩;rw[show B32=2^32 from rfl,<-Nat.pow_mul];exact tN aa aa
structure R1(w wr:World)(B gm L n m:Nat)(gs cs:Nat->Nat)(M:Mx.Mat):Prop where
 mo:MO wr B gm L gs cs n M
 bl:Below B w wr
 len:M.length=m
theorem R1.ext{w wr wx:World}{B gm L n m:Nat}{gs cs:Nat->Nat}{M:Mx.Mat}(h:R1 w wr B gm L n m gs cs M)(hB:B<=wr.heap.size)(k:Below wr.heap.size wr wx):R1 w wx B gm L n m gs cs M:=
 ⟨h.mo.below k (af _),h.bl.trans (k.mono hB),h.len⟩
theorem MO.elem{w:World}{B gm L:Nat}{gs cs:Nat->Nat}{n:Nat}{M:Mx.Mat}(h:MO w B gm L gs cs n M){i j:Nat}(hi:i<M.length)(hj:j<n):
  ∃x:IV,w.cell? ⟨gm,i,none⟩=some (.slice (some ⟨gs i,0,none⟩) n (cs i))/\w.cell? ⟨gs i,j*2,none⟩=some (.bool x.s)/\w.cell? ⟨gs i,j*2+1,none⟩=some (.slice x.a x.n x.cap)/\IZ w x (Mx.at' M i j)/\gs i<w.heap.size:=by
 obtain⟨h1,h2,h3,h4,h5⟩:=h.hc i hi;obtain⟨x,x1,x2,x3,_⟩:=h5.at (k:=j) (z:=Mx.at' M i j) (getD_some (by rw[h.rc.rw hi];exact hj));exact⟨x,h1,x1,x2,x3,h5.lt⟩
theorem R1.swp{w wr:World}{B gm L n m:Nat}{gs cs:Nat->Nat}{M:Mx.Mat}(h:R1 w wr B gm L n m gs cs M){i j:Nat}(hi:i<m)(hj:j<m):
  R1 w ((wr.setCell ⟨gm,i,none⟩ (.slice (some ⟨gs j,0,none⟩) n (cs j))).setCell ⟨gm,j,none⟩ (.slice (some ⟨gs i,0,none⟩) n (cs i))).drew B gm L n m (ix gs i j) (ix cs i j) (Mx.swp M i j):=
 ⟨(h.mo.swp (by rw[h.len];exact hi) (by rw[h.len];exact hj)).below (Below.refl _ _).drew (af _),((h.bl.setCell h.mo.b _).setCell h.mo.b _).drew,by rw[Mx.cW];exact h.len⟩
end
end Go.Proofs.YtcgjmdpcplhanaaGreat
