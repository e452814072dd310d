/- Lemmas for the law: E4 E5 E6 -/
import Derived.Test.YtcgjmdpcplhanaaGreatZd3
namespace Go.Proofs.YtcgjmdpcplhanaaGreat
section
theorem zb15{p:Prop}(h:p:=by(first|(apply R9;(exact rfl);(focus((apply aE;(conv=>lhs;whnf);(first|done|exact rfl))));(focus((apply aE;(conv=>lhs;whnf);(first|done|exact rfl))));(omega))|(apply eI;(exact rfl);(focus((apply aE;(conv=>lhs;whnf);(first|done|exact rfl))));(focus((apply aE;(conv=>lhs;whnf);(first|done|exact rfl))));(exact rfl)))):p:=h
theorem sa{p q:Prop}(h:q)(f:Wq q->p:=by(intro hW;(refine aL1 rfl rfl rfl zb15 ?_);exact hW.out)):p:=f ⟨h⟩
theorem lL{p q:Prop}(h:q)(f:Wq q->p:=by(intro hW;(refine cO ?_;refine zs4 ?_);exact hW.out)):p:=f ⟨h⟩
theorem I7{p q:Prop}(h:q)(f:Wq q->p:=by(intro hW;(refine aL1 rfl rfl rfl zb4 ?_);exact hW.out)):p:=f ⟨h⟩
theorem kU{p q:Prop}(h:q)(f:Wq q->p:=by(intro hW;(refine I7 ?_;refine ir ?_);exact hW.out)):p:=f ⟨h⟩
theorem QR{p q:Prop}(h:q)(f:Wq q->p:=by(intro hW;(refine lL ?_;refine zs4 ?_;refine sa ?_;refine kU ?_;refine sa ?_;refine cK ?_);exact hW.out)):p:=f ⟨h⟩
theorem JG{p q:Prop}(h:q)(f:Wq q->p:=by(intro hW;(refine jv ?_;refine zs19 ?_;refine cK ?_);exact hW.out)):p:=f ⟨h⟩
theorem jy{p q:Prop}(h:q)(f:Wq q->p:=by(intro hW;(refine eV ?_;refine tH ?_);exact hW.out)):p:=f ⟨h⟩
theorem mK{p q:Prop}(h:q)(f:Wq q->p:=by(intro hW;(refine cO ?_;refine zs5 ?_;refine mJ ?_;refine aX ?_);exact hW.out)):p:=f ⟨h⟩
theorem wD{p q:Prop}(h:q)(f:Wq q->p:=by(intro hW;(refine zs2 ?_;refine mK ?_;refine zs2 ?_);exact hW.out)):p:=f ⟨h⟩
theorem yg{p q:Prop}(h:q)(f:Wq q->p:=by(intro hW;(refine aL1 rfl rfl rfl (by(apply uM;(exact rfl);(exact lj))) ?_);exact hW.out)):p:=f ⟨h⟩
theorem QY{p q:Prop}(h:q)(f:Wq q->p:=by(intro hW;(refine gar ?_;refine yg ?_;refine aX ?_);exact hW.out)):p:=f ⟨h⟩
theorem qS{p q:Prop}(h:q)(f:Wq q->p:=by(intro hW;(refine QY ?_;refine zs2 ?_);exact hW.out)):p:=f ⟨h⟩
theorem lJ{p q:Prop}(h:q)(f:Wq q->p:=by(intro hW;(refine zs2 ?_;refine qS ?_);exact hW.out)):p:=f ⟨h⟩
theorem jx{p q:Prop}(h:q)(f:Wq q->p:=by(intro hW;(refine bp ?_;refine gy ?_;refine zs2 ?_);exact hW.out)):p:=f ⟨h⟩
theorem zs55{p q:Prop}(h:q)(f:Wq q->p:=by(intro hW;((first|(apply aB 8;(focus kernel_rfl);(decide+kernel))|(apply aB 7;(focus kernel_rfl);(decide+kernel))|(apply aB 6;(focus kernel_rfl);(decide+kernel))|(apply aB 5;(focus kernel_rfl);(decide+kernel))|(apply aB 4;(focus kernel_rfl);(decide+kernel))|(apply aB 3;(focus kernel_rfl);(decide+kernel))|(apply aB 2;(focus kernel_rfl);(decide+kernel))|(apply aB 1;(focus kernel_rfl);(decide+kernel)));simp only[dJ,dv,eC,cY]);exact hW.out)):p:=f ⟨h⟩
theorem Ea{p:Prop}(h:p:=by(first|(apply eI;(exact rfl);(focus((apply aE;(conv=>lhs;whnf);(first|done|exact rfl))));(focus((apply aE;(conv=>lhs;whnf);(first|done|exact rfl))));(exact rfl))|(apply RY;(exact rfl);(focus((apply aE;(conv=>lhs;whnf);(first|done|exact rfl))));(focus((apply aE;(conv=>lhs;whnf);(first|done|exact rfl))));(kernel_rfl)))):p:=h
theorem AV{p q:Prop}(h:q)(f:Wq q->p:=by(intro hW;((first|refine eJ rfl rfl rfl aj Ea aj aj ?_|((try refine aY ?_);refine aL1 rfl rfl rfl Ea ?_)));exact hW.out)):p:=f ⟨h⟩
theorem zs57{p q:Prop}(h:q)(f:Wq q->p:=by(intro hW;((first|refine eJ rfl rfl rfl aj zb0 aj aj ?_|((try refine aY ?_);refine aL1 rfl rfl rfl zb0 ?_)));exact hW.out)):p:=f ⟨h⟩
theorem zs56{p q:Prop}(h:q)(f:Wq q->p:=by(intro hW;((first|refine eJ rfl rfl rfl aj zb3 aj aj ?_|((try refine aY ?_);refine aL1 rfl rfl rfl zb3 ?_)));exact hW.out)):p:=f ⟨h⟩
theorem yQ{p q:Prop}(h:q)(f:Wq q->p:=by(intro hW;(refine eV ?_;refine eV ?_;refine zs56 ?_;refine zs57 ?_);exact hW.out)):p:=f ⟨h⟩
theorem QW{p q:Prop}(h:q)(f:Wq q->p:=by(intro hW;(refine zs55 ?_;refine yQ ?_;refine yQ ?_;refine AV ?_;refine jg ?_);exact hW.out)):p:=f ⟨h⟩
theorem zb16{p:Prop}(h:p:=by(first|(apply RZ;(exact rfl);(focus((apply aE;(conv=>lhs;whnf);(first|done|exact rfl))));(focus((apply aE;(conv=>lhs;whnf);(first|done|exact rfl))));(omega))|(apply eI;(exact rfl);(focus((apply aE;(conv=>lhs;whnf);(first|done|exact rfl))));(focus((apply aE;(conv=>lhs;whnf);(first|done|exact rfl))));(exact rfl)))):p:=h
theorem zs68{p q:Prop}(h:q)(f:Wq q->p:=by(intro hW;(refine aL1 rfl rfl rfl (by(first|(apply RS;(exact rfl);(focus((apply aE;(conv=>lhs;whnf);(first|done|exact rfl))));(focus((apply aE;(conv=>lhs;whnf);(first|done|exact rfl))));(omega))|(apply eI;(exact rfl);(focus((apply aE;(conv=>lhs;whnf);(first|done|exact rfl))));(focus((apply aE;(conv=>lhs;whnf);(first|done|exact rfl))));(exact rfl)))) ?_);exact hW.out)):p:=f ⟨h⟩
theorem QT{p q:Prop}(h:q)(f:Wq q->p:=by(intro hW;(refine cO ?_;refine kU ?_;refine zs4 ?_;refine zs68 ?_;refine cK ?_);exact hW.out)):p:=f ⟨h⟩
theorem sb{p q:Prop}(h:q)(f:Wq q->p:=by(intro hW;((first|(refine aLs rfl rfl rfl rfl ?_ ?_;(focus(apply bh;(conv=>lhs;whnf);(first|done|exact rfl|(apply bg;(first|(apply au;omega)|(apply aw;omega)|assumption|(simp;done)))))))|refine aLw rfl rfl rfl rfl cE zb2 ?_));exact hW.out)):p:=f ⟨h⟩
theorem I8{p q:Prop}(h:q)(f:Wq q->p:=by(intro hW;((first|(refine aLs rfl rfl rfl rfl ?_ ?_;(focus(apply bh;(conv=>lhs;whnf);(first|done|exact rfl|(apply bg;(first|(apply au;omega)|(apply aw;omega)|assumption|(simp;done)))))))|refine aLw rfl rfl rfl rfl cE J3 ?_));exact hW.out)):p:=f ⟨h⟩
theorem zb5{p:Prop}(h:p:=by(first|(apply Gp;(exact rfl);(focus((apply aE;(conv=>lhs;whnf);(first|done|exact rfl))));(focus(first|exact rfl|(apply au;omega)|assumption|(simp;done)));(exact lj))|(apply Gq;(exact rfl);(focus((apply aE;(conv=>lhs;whnf);(first|done|exact rfl))));(focus(first|exact rfl|(apply aw;omega)|assumption|(simp;done)));(focus((apply aE;(conv=>lhs;whnf);(first|done|exact rfl)))))|(apply d_pick;(exact rfl);(focus((apply aE;(conv=>lhs;whnf);(first|done|exact rfl))));(exact lj);(focus((apply aE;(conv=>lhs;whnf);(first|done|exact rfl))));(exact rfl)))):p:=h
theorem AU{p q:Prop}(h:q)(f:Wq q->p:=by(intro hW;(refine aL1 rfl rfl rfl zb5 ?_);exact hW.out)):p:=f ⟨h⟩
theorem pg{p q:Prop}(h:q)(f:Wq q->p:=by(intro hW;((first|(refine aLs rfl rfl rfl rfl ?_ ?_;(focus(apply bh;(conv=>lhs;whnf);(first|done|exact rfl|(apply bg;(first|(apply au;omega)|(apply aw;omega)|assumption|(simp;done)))))))|refine aLw rfl rfl rfl rfl cE yj ?_));exact hW.out)):p:=f ⟨h⟩
theorem kT{p q:Prop}(h:q)(f:Wq q->p:=by(intro hW;(refine AU ?_;refine aX ?_);exact hW.out)):p:=f ⟨h⟩
theorem QV{p q:Prop}(h:q)(f:Wq q->p:=by(intro hW;(refine cO ?_;refine zs5 ?_;refine mJ ?_;refine fM ?_;refine zs8 ?_;refine sb ?_;refine I8 ?_;refine AU ?_;refine fM ?_;refine pg ?_;refine kT ?_);exact hW.out)):p:=f ⟨h⟩
theorem zs66{p q:Prop}(h:q)(f:Wq q->p:=by(intro hW;(refine aL1 rfl rfl rfl (by(first|(apply Au;(exact rfl);(focus((apply aE;(conv=>lhs;whnf);(first|done|exact rfl))));(exact rfl);(focus((first|exact iM|exact iK|exact iL|exact wd_pt|exact rfl)));(exact rfl);(kernel_rfl);(kernel_rfl))|(apply nt;(exact rfl);(focus((apply aE;(conv=>lhs;whnf);(first|done|exact rfl))));(focus((repeat(first|exact bF|refine bJ _ ?_))));(exact mz);(exact rfl);(exact rfl);(focus((first|exact iM|exact iK|exact iL|exact wd_pt|exact rfl)));(exact rfl);(kernel_rfl);(kernel_rfl))|(apply oK;(exact rfl);(focus((apply aE;(conv=>lhs;whnf);(first|done|exact rfl))));(focus((repeat(first|exact bF|refine bJ _ ?_))));(exact rfl);(focus((first|exact mz|(apply uD;assumption)|assumption|(apply get_map;exact hy h6)|exact rfl)));(exact rfl);(focus((first|exact iM|exact iK|exact iL|exact wd_pt|exact rfl)));(exact rfl);(kernel_rfl);(kernel_rfl))|(apply pQ;(exact rfl);(focus((apply aE;(conv=>lhs;whnf);(first|done|exact rfl))));(focus((repeat(first|exact bF|refine bJ _ ?_))));(exact rfl);(focus(first|(apply iU;assumption)|exact rfl));(assumption);(kernel_rfl);(kernel_rfl)))) ?_);exact hW.out)):p:=f ⟨h⟩
theorem zs65{p q:Prop}(h:q)(f:Wq q->p:=by(intro hW;(refine aL1 rfl rfl rfl (by(first|(apply nr;(exact rfl);(focus((apply aE;(conv=>lhs;whnf);(first|done|exact rfl))));(focus((apply aE;(conv=>lhs;whnf);(first|done|exact rfl))));(kernel_rfl);(kernel_rfl);(omega);(focus((first|(apply get_map;exact hy h6)|(apply get_map;assumption)|(apply get_own;assumption)))))|(apply jT;(exact rfl);(focus((apply aE;(conv=>lhs;whnf);(first|done|exact rfl))));(focus((apply aE;(conv=>lhs;whnf);(first|done|exact rfl))));(focus((repeat(first|exact bF|refine bJ _ ?_))));(kernel_rfl);(kernel_rfl);(focus(first|omega|(simp;omega)));(focus(first|(apply iU;assumption)|exact rfl))))) ?_);exact hW.out)):p:=f ⟨h⟩
theorem QS{p q:Prop}(h:q)(f:Wq q->p:=by(intro hW;(refine lL ?_;refine zs65 ?_;refine zs66 ?_;refine zs68 ?_;refine cK ?_);exact hW.out)):p:=f ⟨h⟩
theorem eU{p q:Prop}(h:q)(f:Wq q->p:=by(intro hW;(refine zs2 ?_;refine gy ?_;refine zs2 ?_);exact hW.out)):p:=f ⟨h⟩
theorem J1{p:Prop}(h:p:=by first|(apply Of;assumption)|exact mT _|exact rfl):p:=h
theorem I9{p q:Prop}(h:q)(f:Wq q->p:=by(intro hW;((first|(apply aB 9;(focus kernel_rfl);(decide+kernel))|(apply aB 8;(focus kernel_rfl);(decide+kernel))|(apply aB 7;(focus kernel_rfl);(decide+kernel))|(apply aB 6;(focus kernel_rfl);(decide+kernel))|(apply aB 5;(focus kernel_rfl);(decide+kernel))|(apply aB 4;(focus kernel_rfl);(decide+kernel))|(apply aB 3;(focus kernel_rfl);(decide+kernel))|(apply aB 2;(focus kernel_rfl);(decide+kernel)));simp only[dJ,dv,eC,cY]);exact hW.out)):p:=f ⟨h⟩
theorem dn{p q:Prop}(h:q)(f:Wq q->p:=by(intro hW;(refine zs2 ?_;refine mK ?_;refine bw ?_);exact hW.out)):p:=f ⟨h⟩
theorem eR{p q:Prop}(h:q)(f:Wq q->p:=by(intro hW;(refine zs2 ?_;refine mK ?_;refine bp ?_);exact hW.out)):p:=f ⟨h⟩
theorem zb59{p:Prop}(h:p:=by rw[sM aa,cj aa];exact h):p:=h
theorem JF{p q:Prop}(h:q)(f:Wq q->p:=by(intro hW;(refine cO ?_;refine zs5 ?_;refine mJ ?_;refine fM ?_;refine pg ?_;refine kT ?_);exact hW.out)):p:=f ⟨h⟩
theorem Du{p q:Prop}(h:q)(f:Wq q->p:=by(intro hW;((first|(apply aB 11;(focus kernel_rfl);(decide+kernel))|(apply aB 10;(focus kernel_rfl);(decide+kernel))|(apply aB 9;(focus kernel_rfl);(decide+kernel))|(apply aB 8;(focus kernel_rfl);(decide+kernel))|(apply aB 7;(focus kernel_rfl);(decide+kernel))|(apply aB 6;(focus kernel_rfl);(decide+kernel))|(apply aB 5;(focus kernel_rfl);(decide+kernel))|(apply aB 4;(focus kernel_rfl);(decide+kernel)));simp only[dJ,dv,eC,cY]);exact hW.out)):p:=f ⟨h⟩
theorem Ja{p q:Prop}(h:q)(f:Wq q->p:=by(intro hW;(refine aL1 rfl rfl rfl Ea ?_);exact hW.out)):p:=f ⟨h⟩
theorem wL{p q:Prop}(h:q)(f:Wq q->p:=by(intro hW;(refine jv ?_;refine zs4 ?_;refine zs5 ?_;refine Ja ?_;refine aX ?_);exact hW.out)):p:=f ⟨h⟩
theorem zs70{p q:Prop}(h:q)(f:Wq q->p:=by(intro hW;((refine qe (i:=i+k) rfl rfl rfl cD cD bf aj sf aj dT aj ai qf ?_));exact hW.out)):p:=f ⟨h⟩
theorem QQ{p q:Prop}(h:q)(f:Wq q->p:=by(intro hW;(refine lL ?_;refine sa ?_;refine zs4 ?_;refine Jb ?_;refine I7 ?_;refine zs70 ?_;refine aX ?_);exact hW.out)):p:=f ⟨h⟩
end
section
open Go.RowKit
namespace DW
theorem Vj{a b:Nat}(h:hd a=hd b):a=b:=by rw[<-jF a,<-jF b,h]
theorem Cu{a b:Nat}(h:(hd a).length<(hd b).length):a<b:=by
 have:=Dg.kH (b:=65536) av (Dg.dz av a).1 (Dg.dz av b).1 h;rwa[(Dg.dz av a).2,(Dg.dz av b).2]at this
theorem Nl{a b i:Nat}(hi:i<(hd a).length)(hl:(hd a).length=(hd b).length)(hd':(hd a).drop (i+1)=(hd b).drop (i+1))(h:(hd a).getD i 0<(hd b).getD i 0):a<b:=by
 have:=Dg.lex_lt (jN a) hi hl hd' h;rwa[jF,jF]at this
theorem Ik{a i:Nat}(hi:i<(hd a).length):(hd a).drop i=(hd a).getD i 0::(hd a).drop (i+1):=by
 rw[rh hi,aG,aV hi];rfl
theorem qA{a i:Nat}(hi:i<(hd a).length):(hd a)[i]?=some ((hd a).getD i 0):=rQ hi
theorem xE{l:List Nat}{i:Nat}(h:l.length<=i):l.getD i 0=0:=by rw[aG,gA h];rfl
set_option maxRecDepth 20000
set_option maxHeartbeats 1000000
theorem M7(a b:Nat)(ha:(hd a).length<=900000000)(hb:(hd b).length<=900000000):Fn Tryz.prog 153 [dN (hd a),dN (hd b)] (.sc (.bool (decide (a<b)))):=by
 refine ba Tryz.func153 ai rfl rfl rfl fun X0=>?_;simp only[aO];by_cases hl:(hd a).length=(hd b).length
 ·refine lJ ?_;refine wL ?_;refine bp ?_;refine JG ?_;refine zs2 ?_
  (refine ay (aq (sl':=[(0,dN (hd a)),(1,dN (hd b)),(5,zI ((hd a).length-1))]) (ow':=[]) az aD) ?_)
  refine bc (fun r s=>r<=(hd a).length/\(hd a).drop r=(hd b).drop r/\s=⟨[(0,dN (hd a)),(1,dN (hd b)),(5,zI (r-1))],[]⟩) (m:=(hd a).length) ⟨af _,by rw[sS,hl,sS],rfl⟩ fun r s hs=>?_;obtain⟨h1,h2,rfl⟩:=hs;by_cases hr:r=0
  ·have e:a=b:=Vj (by subst hr;simpa using h2);refine zs2 ?_;refine ja ?_;refine bp ?_;refine qS ?_;rw[show decide (a<b)=false from aw aa];exact⟨_,Sh.refl, .one (.tmp 4) _ rfl (.tmp 4 rfl)⟩
  ·obtain⟨i,rfl⟩:∃i,r=i+1:=⟨r-1,by omega⟩;have hi:i<(hd a).length:=by omega
   have hi':i<(hd b).length:=by omega
   have hx:=qA hi;have hy:=qA hi';have hc:((i+1:Nat):Int)-1=(i:Int):=by omega
   have k1:=Ik hi;have k2:=Ik hi';have k3:(hd a).getD i 0<(hd b).getD i 0->a<b:=Nl hi hl h2;have k4:(hd b).getD i 0<(hd a).getD i 0->b<a:=Nl hi' hl.symm h2.symm;obtain⟨x,hxd⟩:∃x,x=(hd a).getD i 0:=⟨_,rfl⟩;obtain⟨y,hyd⟩:∃y,y=(hd b).getD i 0:=⟨_,rfl⟩;rw[<-hxd]at hx k1 k3 k4;rw[<-hyd]at hy k2 k3 k4;by_cases hxy:x=y
   ·have k5:(hd a).drop i=(hd b).drop i:=by rw[k1,k2,hxy,h2]
    refine zs2 ?_;refine ja ?_;refine bw ?_;refine QW ?_;refine bp ?_;refine wM ?_;refine zs2 ?_;simp only[nx,inB];exact⟨i,_,by omega,(aq (sl':=[(0,dN (hd a)),(1,dN (hd b)),(5,zI ((i:Int)-1))]) (ow':=[]) az aD),by omega,k5,rfl⟩
   ·have k5 : decide ((x : Int) < (y : Int)) = decide (a < b) := by
     by_cases h:x<y
     ·rw[au aa,au (k3 h)]
     ·rw[aw aa,aw (by have:=k4 aa;omega)]
    refine zs2 ?_;refine ja ?_;refine bw ?_;refine QW ?_;refine bw ?_;refine I9 ?_;refine yQ ?_;refine yQ ?_;(first|refine eJ rfl rfl rfl aj J3 aj aj ?_|((try refine aY ?_);refine aL1 rfl rfl rfl J3 ?_));refine tI ?_;refine jg ?_;refine zs2 ?_;rw[<-k5];exact⟨_,Sh.refl, .one (.tmp 4) _ rfl (.tmp 4 rfl)⟩
 ·have k5 : decide (((hd a).length : Int) < ((hd b).length : Int)) = decide (a < b) := by
   by_cases h:(hd a).length<(hd b).length
   ·rw[au aa,au (Cu h)]
   ·rw[aw aa,aw (by have:=Cu (a:=b) (b:=a) aa;omega)]
  refine lJ ?_;refine wL ?_;refine bw ?_;refine jv ?_;refine zs4 ?_;refine zs5 ?_;refine mJ ?_;refine cT ?_;rw[<-k5];exact⟨_,Sh.refl, .one (.tmp 4) _ rfl (.tmp 4 rfl)⟩
theorem Mt{a b o:List Nat}{i c:Nat}(hi:o.length=i)(h:Dg.vl 65536 o+c*65536^i=Dg.vl 65536 (a.take i)+Dg.vl 65536 (b.take i)):
  Dg.vl 65536 (o++[(c+a.getD i 0+b.getD i 0)%65536])+(c+a.getD i 0+b.getD i 0)/65536*65536^(i+1)=Dg.vl 65536 (a.take (i+1))+Dg.vl 65536 (b.take (i+1)):=by
 have:=Dg.rC (B:=65536) (a:=a) (b:=b) (o:=o++[0]) (i:=i) (c:=c) cX zb59;rw[show a.getD i 0+b.getD i 0+c=c+a.getD i 0+b.getD i 0 by omega,Dg.lP cX,sM aa,cj aa]at this;exact this
theorem Hp(a b:Nat)(ha:(hd a).length<=400000000)(hb:(hd b).length<=400000000):Fn Tryz.prog 152 [dN (hd a),dN (hd b)] (dN (hd (a+b))):=by
 refine ba Tryz.func152 ai rfl rfl rfl fun X0=>?_;simp only[aO];refine kd ?_;refine eQ ?_;refine ov ?_;refine ay (da (t:=5) (k:=5) (T:=3) (wd:=1) fq rfl rfl cu) ?_
 (refine ay (aq (sl':=[(0,dN (hd a)),(1,dN (hd b)),(5, .own 5),(6,zI 0),(7,zI 0)]) (ow':=[(5,⟨3,1,[]⟩)]) az aD) ?_)
 obtain⟨M,hM⟩:∃M,M=max (hd a).length (hd b).length:=⟨_,rfl⟩;refine bc (fun r s=>∃i o c,r=M+1-i/\o.length=i/\Dg.dig 65536 o/\c<=1/\(i<=M\/(i<=M+1/\c=0))/\Dg.vl 65536 o+c*65536^i=Dg.vl 65536 ((hd a).take i)+Dg.vl 65536 ((hd b).take i)/\s=⟨[(0,dN (hd a)),(1,dN (hd b)),(5, .own 5),(6,zI (c:Nat)),(7,zI (i:Nat))],[(5,⟨3,1,o.map hN⟩)]⟩) (m:=M+1) ⟨0,[],0,by omega,rfl,fun _ h=>(by cases h),by omega, .inl aa,by simp[Dg.vl],rfl⟩ fun r s hs=>?_;obtain⟨i,o,c,rfl,ho,hdo,hc,hiM,hv,rfl⟩:=hs;have STEP:=Mt (a:=hd a) (b:=hd b) ho hv;have hxl:(hd a).getD i 0<65536:=Dg.bR (jN a) av i;have hyl:(hd b).getD i 0<65536:=Dg.bR (jN b) av i;have hx:i<(hd a).length->(hd a)[i]?=some ((hd a).getD i 0):=qA;have hy:i<(hd b).length->(hd b)[i]?=some ((hd b).getD i 0):=qA;have hx0:(hd a).length<=i->(hd a).getD i 0=0:=xE;have hy0:(hd b).length<=i->(hd b).getD i 0=0:=xE;obtain⟨x,hxd⟩:∃x,x=(hd a).getD i 0:=⟨_,rfl⟩;obtain⟨y,hyd⟩:∃y,y=(hd b).getD i 0:=⟨_,rfl⟩;rw[<-hxd]at STEP hxl hx hx0;rw[<-hyd]at STEP hyl hy hy0;have hdig:=qI hdo (eu (c+x+y) (by omega:0<65536));have hms:=qx o ((c+x+y)%65536);have hlen:(o++[(c+x+y)%65536]).length=i+1:=by simp[ho]
 have kx:(hd a).length<=M:=by omega
 have ky:(hd b).length<=M:=by omega
 have kM:M<=(hd a).length\/M<=(hd b).length:=by omega
 have kM2:M<=400000000:=by omega
 clear hM hxd hyd;by_cases hend:M<=i/\c=0
 ·obtain⟨h1,h2⟩:=hend;have e:Dg.vl 65536 o=a+b:=by
   subst h2;rw[cj aa,cj aa,jF,jF]at hv;omega
  have T:=zA (l:=o) aa hdo e;refine zs2 ?_;refine QV ?_;refine bp ?_;refine ay (aA (k:=5) bf bA bz) ?_;refine oy ?_;refine zs2 ?_;exact⟨_,Sh.refl, .one (.tmp 4) _ rfl (.tmp 4 rfl)⟩
 ·have hcases:((i<(hd a).length)\/(i<(hd b).length/\(hd a).length<=i))\/(c>0/\(hd a).length<=i/\(hd b).length<=i):=by omega
  have hxe:i<(hd a).length\/((hd a).length<=i/\x=0):=by
   by_cases h:i<(hd a).length
   ·exact .inl h
   ·exact .inr ⟨by omega,hx0 aa⟩
  have hye:i<(hd b).length\/((hd b).length<=i/\y=0):=by
   by_cases h:i<(hd b).length
   ·exact .inl h
   ·exact .inr ⟨by omega,hy0 aa⟩
  rcases hcases with(h1|⟨h1,h2⟩)|⟨h1,h2,h3⟩;all_goals
   rcases hxe with h4|⟨h4,h5⟩;all_goals
    rcases hye with h6|⟨h6,h7⟩;all_goals
     first
      |(exfalso;omega;done)
      | ((refine zs2 ?_); refine QV ?_; (refine zs2 ?_)
         refine gP ?_;refine wD ?_
         (first|(refine gP ?_;(refine zs2 ?_);(refine gar ?_;refine zs4 ?_;refine zs4 ?_;refine zs4 ?_;(refine aL1 rfl rfl rfl (by(first|(apply nr;(exact rfl);(focus((apply aE;(conv=>lhs;whnf);(first|done|exact rfl))));(focus((apply aE;(conv=>lhs;whnf);(first|done|exact rfl))));(kernel_rfl);(kernel_rfl);(omega);(focus((first|(apply get_map;exact hx h4)|(apply get_map;assumption)|(apply get_own;assumption)))))|(apply jT;(exact rfl);(focus((apply aE;(conv=>lhs;whnf);(first|done|exact rfl))));(focus((apply aE;(conv=>lhs;whnf);(first|done|exact rfl))));(focus((repeat(first|exact bF|refine bJ _ ?_))));(kernel_rfl);(kernel_rfl);(focus(first|omega|(simp;omega)));(focus(first|(apply iU;assumption)|exact rfl))))) ?_);(refine aL1 rfl rfl rfl (by(first|(apply Au;(exact rfl);(focus((apply aE;(conv=>lhs;whnf);(first|done|exact rfl))));(exact rfl);(focus((first|exact iM|exact iK|exact iL|exact wd_pt|exact rfl)));(exact rfl);(kernel_rfl);(kernel_rfl))|(apply nt;(exact rfl);(focus((apply aE;(conv=>lhs;whnf);(first|done|exact rfl))));(focus((repeat(first|exact bF|refine bJ _ ?_))));(exact mz);(exact rfl);(exact rfl);(focus((first|exact iM|exact iK|exact iL|exact wd_pt|exact rfl)));(exact rfl);(kernel_rfl);(kernel_rfl))|(apply oK;(exact rfl);(focus((apply aE;(conv=>lhs;whnf);(first|done|exact rfl))));(focus((repeat(first|exact bF|refine bJ _ ?_))));(exact rfl);(focus((first|exact mz|(apply uD;assumption)|assumption|(apply get_map;exact hx h4)|exact rfl)));(exact rfl);(focus((first|exact iM|exact iK|exact iL|exact wd_pt|exact rfl)));(exact rfl);(kernel_rfl);(kernel_rfl))|(apply pQ;(exact rfl);(focus((apply aE;(conv=>lhs;whnf);(first|done|exact rfl))));(focus((repeat(first|exact bF|refine bJ _ ?_))));(exact rfl);(focus(first|(apply iU;assumption)|exact rfl));(assumption);(kernel_rfl);(kernel_rfl)))) ?_);refine sa ?_;refine zs6 ?_;refine aX ?_);(refine zs2 ?_))|(refine gQ ?_;(refine zs2 ?_)))
         refine wD ?_
         (first|(refine gP ?_;(refine zs2 ?_);(refine gar ?_;refine zs4 ?_;refine zs4 ?_;refine zs4 ?_;refine zs65 ?_;refine zs66 ?_;refine sa ?_;refine zs6 ?_;refine aX ?_);(refine zs2 ?_))|(refine gQ ?_;(refine zs2 ?_)))
         (refine ay (aq (sl':=[(0,dN (hd a)),(1,dN (hd b)),(5, .own 5),(6,zI ((c+x+y:Nat):Int)),(7,zI (i:Nat))]) (ow':=[(5,⟨3,1,o.map hN⟩)]) az aD) ?_)
         refine zs2 ?_;refine cO ?_;refine Jb ?_;refine ph ?_;refine AX ?_;refine cT ?_;refine yV ?_;refine eU ?_;simp only[nx,inB];exact⟨M+1-(i+1),_,by omega,(aq (sl':=[(0,dN (hd a)),(1,dN (hd b)),(5, .own 5),(6,zI (((c+x+y)/65536:Nat):Int)),(7,zI ((i+1:Nat):Int))]) (ow':=[(5,⟨3,1,o.map hN++[hN ((c+x+y)%65536)]⟩)]) az aD),i+1,o++[(c+x+y)%65536],(c+x+y)/65536,rfl,hlen,hdig,by omega,by omega,STEP,by rw[hms]⟩)
end DW
end
section
open Go.RowKit
namespace DW
theorem CG{a b o:List Nat}{i c:Nat}(hi:o.length=i)(h:Dg.vl 65536 o+Dg.vl 65536 (b.take i)=Dg.vl 65536 (a.take i)+c*65536^i)(hc:b.getD i 0+c<=a.getD i 0):
  Dg.vl 65536 (o++[a.getD i 0-b.getD i 0-c])+Dg.vl 65536 (b.take (i+1))=Dg.vl 65536 (a.take (i+1))+0*65536^(i+1):=by
 have:=Dg.Fo (B:=65536) (a:=a) (b:=b) (o:=o++[0]) (i:=i) (c:=c) cX zb59 hc;rw[Dg.lP cX,sM aa,cj aa]at this;exact this
theorem CH{a b o:List Nat}{i c:Nat}(hi:o.length=i)(h:Dg.vl 65536 o+Dg.vl 65536 (b.take i)=Dg.vl 65536 (a.take i)+c*65536^i)(hb:b.getD i 0+c<=a.getD i 0+65536):
  Dg.vl 65536 (o++[a.getD i 0+65536-b.getD i 0-c])+Dg.vl 65536 (b.take (i+1))=Dg.vl 65536 (a.take (i+1))+1*65536^(i+1):=by
 have:=Dg.Fp (B:=65536) (a:=a) (b:=b) (o:=o++[0]) (i:=i) (c:=c) cX zb59 hb;rw[Dg.lP cX,sM aa,cj aa]at this;exact this
set_option maxRecDepth 20000
set_option maxHeartbeats 1000000
theorem ux(a b:Nat)(ha:(hd a).length<=800000000)(hba:b<=a):Fn Tryz.prog 154 [dN (hd a),dN (hd b)] (dN (hd (a-b))):=by
 refine ba Tryz.func154 ai rfl rfl rfl fun X0=>?_;simp only[aO];have hlb:(hd b).length<=(hd a).length:=jR hba;refine kd ?_;refine eQ ?_;refine ov ?_;refine ay (da (t:=5) (k:=5) (T:=3) (wd:=1) fq rfl rfl cu) ?_
 (refine ay (aq (sl':=[(0,dN (hd a)),(1,dN (hd b)),(5, .own 5),(6,zI 0),(7,zI 0)]) (ow':=[(5,⟨3,1,[]⟩)]) az aD) ?_)
 refine bc (fun r s=>∃i o c,r=(hd a).length-i/\i<=(hd a).length/\o.length=i/\Dg.dig 65536 o/\c<=1/\Dg.vl 65536 o+Dg.vl 65536 ((hd b).take i)=Dg.vl 65536 ((hd a).take i)+c*65536^i/\s=⟨[(0,dN (hd a)),(1,dN (hd b)),(5, .own 5),(6,zI (c:Nat)),(7,zI (i:Nat))],[(5,⟨3,1,o.map hN⟩)]⟩) (m:=(hd a).length) ⟨0,[],0,by omega,by omega,rfl,fun _ h=>(by cases h),by omega,by simp[Dg.vl],rfl⟩ fun r s hs=>?_;obtain⟨i,o,c,rfl,hia,ho,hdo,hc,hv,rfl⟩:=hs;by_cases hend:i=(hd a).length
 ·have e : Dg.vl 65536 o = a - b := by
   rw[cj aa,cj aa,jF,jF]at hv;have h1:=Dg.cr hdo;rw[ho]at h1;rcases(show c=0\/c=1 by omega)with h|h
   ·subst h;rw[kY]at hv;omega
   ·subst h;rw[cR]at hv;omega
  have T:=zA (l:=o) aa hdo e;clear hv;refine eR ?_;refine ay (aA (k:=5) bf bA bz) ?_;refine oy ?_;refine zs2 ?_;exact⟨_,Sh.refl, .one (.tmp 4) _ rfl (.tmp 4 rfl)⟩
 ·have hxl:(hd a).getD i 0<65536:=Dg.bR (jN a) av i;have hyl:(hd b).getD i 0<65536:=Dg.bR (jN b) av i;have hx:(hd a)[i]?=some ((hd a).getD i 0):=qA aa;have hy:i<(hd b).length->(hd b)[i]?=some ((hd b).getD i 0):=qA;have hy0:(hd b).length<=i->(hd b).getD i 0=0:=xE;have LO:=CG (a:=hd a) (b:=hd b) ho hv;have HI:=CH (a:=hd a) (b:=hd b) ho hv;obtain⟨x,hxd⟩:∃x,x=(hd a).getD i 0:=⟨_,rfl⟩;obtain⟨y,hyd⟩:∃y,y=(hd b).getD i 0:=⟨_,rfl⟩;rw[<-hxd]at hxl hx LO HI;rw[<-hyd]at hyl hy hy0 LO HI;clear hxd hyd hv;have hye:i<(hd b).length\/((hd b).length<=i/\y=0):=by
   by_cases h:i<(hd b).length
   ·exact .inl h
   ·exact .inr ⟨by omega,hy0 aa⟩
  have hlen:∀q,(o++[q]).length=i+1:=fun q=>by simp[ho]
  by_cases hge:y+c<=x
  ·have LO':=LO hge;clear LO HI;rcases hye with h6|⟨h6,h7⟩;all_goals
    refine dn ?_;refine QT ?_;refine wD ?_
    (first|(refine gP ?_;(refine zs2 ?_);refine QS ?_;(refine zs2 ?_))|(refine gQ ?_;(refine zs2 ?_)))
    refine iZ ?_;refine ja ?_;refine zs2 ?_;refine gQ ?_
    (refine ay (aq (sl':=[(0,dN (hd a)),(1,dN (hd b)),(5, .own 5),(6,zI 0),(7,zI (i:Nat)),(8,hN (x-y-c))]) (ow':=[(5,⟨3,1,o.map hN⟩)]) az aD) ?_)
    refine zs2 ?_;refine yW ?_;refine eU ?_;simp only[nx,inB];exact⟨(hd a).length-(i+1),_,by omega,(aq (sl':=[(0,dN (hd a)),(1,dN (hd b)),(5, .own 5),(6,zI ((0:Nat):Int)),(7,zI ((i+1:Nat):Int))]) (ow':=[(5,⟨3,1,o.map hN++[hN (x-y-c)]⟩)]) az aD),i+1,o++[x-y-c],0,rfl,by omega,hlen _,qI hdo aa,by omega,LO',by rw[qx]⟩
  ·have HI':=HI aa;clear LO HI;rcases hye with h6|⟨h6,h7⟩;all_goals
    refine dn ?_;refine QT ?_;refine wD ?_
    (first|(refine gP ?_;(refine zs2 ?_);refine QS ?_;(refine zs2 ?_))|(refine gQ ?_;(refine zs2 ?_)))
    refine iZ ?_;refine ja ?_;refine bw ?_;refine cn ?_;refine Dv ?_;refine zs6 ?_;refine lu ?_;refine ig ?_
    (refine ay (aq (sl':=[(0,dN (hd a)),(1,dN (hd b)),(5, .own 5),(6,zI 1),(7,zI (i:Nat)),(8,hN (x+65536-y-c))]) (ow':=[(5,⟨3,1,o.map hN⟩)]) az aD) ?_)
    refine zs2 ?_;refine yW ?_;refine eU ?_;simp only[nx,inB];exact⟨(hd a).length-(i+1),_,by omega,(aq (sl':=[(0,dN (hd a)),(1,dN (hd b)),(5, .own 5),(6,zI ((1:Nat):Int)),(7,zI ((i+1:Nat):Int))]) (ow':=[(5,⟨3,1,o.map hN++[hN (x+65536-y-c)]⟩)]) az aD),i+1,o++[x+65536-y-c],1,rfl,by omega,hlen _,qI hdo aa,by omega,HI',by rw[qx]⟩
end DW
end
section
open Go.RowKit
namespace DW
theorem zD{l m o:List Nat}{i k x c:Nat}(hl:Dg.dig 65536 l)(hm:Dg.dig 65536 m)(hil:i<l.length)(hx:x=l.getD i 0)(h:Dg.vl 65536 o+c*65536^(i+k)=Dg.vl 65536 (l.take i)*Dg.vl 65536 m+x*Dg.vl 65536 (m.take k)*65536^i)(hc:c≠0):k<=m.length:=by
 apply dQ;intro hlt;rw[cj (l:=m) aa]at h;have e:Dg.vl 65536 (l.take (i+1))*Dg.vl 65536 m=Dg.vl 65536 (l.take i)*Dg.vl 65536 m+x*Dg.vl 65536 m*65536^i:=by
  rw[Dg.dC,<-hx,cq,Eo]
 have h1:=Dg.cr (Dg.iW hl (i+1));rw[aP,dp aa]at h1;have h2:=Dg.cr hm;have h3:Dg.vl 65536 (l.take (i+1))*Dg.vl 65536 m<=65536^(i+1)*65536^m.length:=cv (bO h1) (bO h2);rw[<-fC]at h3;have h4:(65536:Nat)^(i+1+m.length)<=65536^(i+k):=cH av aa;have h5:1*65536^(i+k)<=c*65536^(i+k):=cZ _ aa;have h6:0<(65536:Nat)^(i+1+m.length):=eH av;have h7:Dg.vl 65536 (l.take (i+1))*Dg.vl 65536 m<65536^(i+1)*65536^m.length:=by
  by_cases hz:Dg.vl 65536 m=0
  ·rw[hz,jA,<-fC];exact h6
  ·exact vB h1 (bO h2) aa
 rw[<-fC]at h7;omega
theorem Kk{l m o:List Nat}{i k x:Nat}(hk:m.length<=k)(hx:x=l.getD i 0)(h:Dg.vl 65536 o+0*65536^(i+k)=Dg.vl 65536 (l.take i)*Dg.vl 65536 m+x*Dg.vl 65536 (m.take k)*65536^i):Dg.vl 65536 o=Dg.vl 65536 (l.take (i+1))*Dg.vl 65536 m:=by
 rw[cj hk,kY,cg]at h;rw[h,Dg.dC,<-hx,cq,Eo x]
theorem qF{o:List Nat}{j:Nat}(h:j<o.length):o[j]?=some (o.getD j 0):=rQ h
theorem map_set(o:List Nat)(j v:Nat):(o.set j v).map hN=(o.map hN).set j (hN v):=qi
set_option maxRecDepth 20000
set_option maxHeartbeats 1000000
theorem Ey(l m:List Nat)(hl:Dg.dig 65536 l)(hm:Dg.dig 65536 m)(hll:l.length<=400000000)(hml:m.length<=400000000):Fn Tryz.prog 155 [dN l,dN m] (dN (hd (Dg.vl 65536 l*Dg.vl 65536 m))):=by
 refine ba Tryz.func155 ai rfl rfl rfl fun X0=>?_;simp only[aO];obtain⟨L,hL⟩:∃L,L=l.length+m.length+1:=⟨_,rfl⟩;have hLc:(l.length:Int)+(m.length:Int)+1=(L:Int):=by omega
 refine kd ?_;refine jv ?_;refine zs4 ?_;refine zs5 ?_;refine sa ?_;refine Dv ?_;(refine AF (k:=15) (T:=Tryz.prog.elem 40) (zv:=(.int .i64 0)) (d0:=(.sc (.int .i64 0))) (wd:=1) rfl rfl rfl rfl cD cD ai ai aj aj aj aj aj aa J1 aj cu ?_);refine cK ?_;refine iZ ?_
 (refine ay (aq (sl':=[(0,dN l),(1,dN m),(5, .own 15),(6,zI 0)]) (ow':=[(15,⟨3,1,List.replicate L (zI 0)⟩)]) az aD) ?_)
 refine bc (fun r s=>∃i o,r=l.length-i/\i<=l.length/\o.length=L/\Dg.dig 65536 o/\Dg.vl 65536 o=Dg.vl 65536 (l.take i)*Dg.vl 65536 m/\s=⟨[(0,dN l),(1,dN m),(5, .own 15),(6,zI (i:Nat))],[(15,⟨3,1,o.map hN⟩)]⟩) (m:=l.length) ⟨0,List.replicate L 0,by omega,by omega,by simp,Dg.iS av _,by rw[Dg.tZ];simp[Dg.vl],by rw[En];rfl⟩ fun r s hs=>?_;obtain⟨i,o,rfl,hil,ho,hdo,hv,rfl⟩:=hs;by_cases hend:i=l.length
 ·have e:Dg.vl 65536 o=Dg.vl 65536 l*Dg.vl 65536 m:=by rw[hv,cj aa]
  have T:=zA (l:=o) aa hdo e;clear hv;refine eR ?_;refine ay (aA (k:=15) bf bA bz) ?_;refine oy ?_;refine zs2 ?_;exact⟨_,Sh.refl, .one (.tmp 4) _ rfl (.tmp 4 rfl)⟩
 ·have hil':i<l.length:=by omega
  obtain⟨x,hxd⟩:∃x,x=l.getD i 0:=⟨_,rfl⟩;have hx:l[i]?=some x:=by rw[hxd];exact qF hil'
  have hxl:x<65536:=by rw[hxd];exact Dg.bR hl av i
  refine dn ?_;refine yX ?_;refine iZ ?_
  (refine ay (aq (sl':=[(0,dN l),(1,dN m),(5, .own 15),(6,zI (i:Nat)),(7,zI 0),(8,zI 0)]) (ow':=[(15,⟨3,1,o.map hN⟩)]) az aD) ?_)
  refine bc (fun r s=>∃k o c,r=m.length+1-k/\o.length=L/\Dg.dig 65536 o/\c<65536/\(k<=m.length\/(k<=m.length+1/\c=0))/\Dg.vl 65536 o+c*65536^(i+k)=Dg.vl 65536 (l.take i)*Dg.vl 65536 m+x*Dg.vl 65536 (m.take k)*65536^i/\s=⟨[(0,dN l),(1,dN m),(5, .own 15),(6,zI (i:Nat)),(7,zI (c:Nat)),(8,zI (k:Nat))],[(15,⟨3,1,o.map hN⟩)]⟩) (m:=m.length+1) ⟨0,o,0,by omega,ho,hdo,by omega, .inl aa,by rw[hv];simp[Dg.vl],rfl⟩ fun r s hs=>?_;clear hv hdo ho;obtain⟨k,o,c,rfl,ho,hdo,hc,hkm,hv,rfl⟩:=hs;by_cases hend2:m.length<=k/\c=0
  ·obtain⟨h1,h2⟩:=hend2;have e:Dg.vl 65536 o=Dg.vl 65536 (l.take (i+1))*Dg.vl 65536 m:=by subst h2;exact Kk h1 hxd hv
   clear hv;refine zs2 ?_;refine JF ?_;refine jx ?_;simp only[nx,inB];exact⟨l.length-(i+1),_,by omega,(aq (sl':=[(0,dN l),(1,dN m),(5, .own 15),(6,zI ((i+1:Nat):Int))]) (ow':=[(15,⟨3,1,o.map hN⟩)]) az aD),i+1,o,rfl,by omega,ho,hdo,e,rfl⟩
  ·have hk : k <= m.length := by
    by_cases h:c=0
    ·omega
    ·exact zD hl hm hil' hxd hv h
   have hik:i+k<o.length:=by omega
   have STEP:=Dg.zC (B:=65536) (b:=m) (o:=o) (i:=i) (k:=k) (x:=x) (c:=c) hik hv;have hu:=qF hik;have hul:o.getD (i+k) 0<65536:=Dg.bR hdo av _;have hyl:m.getD k 0<65536:=Dg.bR hm av _;have hy:k<m.length->m[k]?=some (m.getD k 0):=qF;have hy0:m.length<=k->m.getD k 0=0:=xE;clear hv;obtain⟨u,hud⟩:∃u,u=o.getD (i+k) 0:=⟨_,rfl⟩;obtain⟨y,hyd⟩:∃y,y=m.getD k 0:=⟨_,rfl⟩;rw[<-hud]at hul hu STEP;rw[<-hyd]at hyl hy hy0 STEP;clear hud hyd;have hxy:x*y<=65535*65535:=cv aa aa;have hxy0:y=0->x*y=0:=fun h=>by rw[h,jA]
   have hc2:(x*y+u+c)/65536<65536:=by
    rw[tS av];omega
   have hik':(i:Int)+(k:Int)=((i+k:Nat):Int):=by omega
   have hdig:=Dg.fX hdo (j:=i+k) (eu (x*y+u+c) (by decide:0<65536));have hms:=map_set o (i+k) ((x*y+u+c)%65536);have hlen:(o.set (i+k) ((x*y+u+c)%65536)).length=L:=by rw[ed];exact ho
   have hcast:((x*y:Nat):Int)=(x:Int)*(y:Int):=Int.natCast_mul x y;have hye:k<m.length\/(m.length<=k/\y=0/\c≠0):=by
    by_cases h:k<m.length
    ·exact .inl h
    ·exact .inr ⟨by omega,hy0 aa,by omega⟩
   rcases hye with h6|⟨h6,h7,h8⟩
   ·have hye:=hy h6;refine zs2 ?_;refine JF ?_;refine bw ?_;refine QR ?_;refine dn ?_;refine Du ?_;refine eV ?_;refine jy ?_;refine jy ?_;(first|refine eJ rfl rfl rfl aj zb16 aj aj ?_|((try refine aY ?_);refine aL1 rfl rfl rfl zb16 ?_));(first|refine eJ rfl rfl rfl aj zb15 aj aj ?_|((try refine aY ?_);refine aL1 rfl rfl rfl zb15 ?_));refine tI ?_;refine jg ?_;refine zs2 ?_
    (refine ay (aq (sl':=[(0,dN l),(1,dN m),(5, .own 15),(6,zI (i:Nat)),(7,zI ((x*y+u+c:Nat):Int)),(8,zI (k:Nat))]) (ow':=[(15,⟨3,1,o.map hN⟩)]) az aD) ?_)
    refine zs2 ?_;refine QQ ?_;refine zs2 ?_;refine yV ?_;refine eU ?_;simp only[nx,inB];exact⟨m.length+1-(k+1),_,by omega,(aq (sl':=[(0,dN l),(1,dN m),(5, .own 15),(6,zI (i:Nat)),(7,zI (((x*y+u+c)/65536:Nat):Int)),(8,zI ((k+1:Nat):Int))]) (ow':=[(15,⟨3,1,(o.map hN).set (i+k) (hN ((x*y+u+c)%65536))⟩)]) az aD),k+1,o.set (i+k) ((x*y+u+c)%65536),(x*y+u+c)/65536,rfl,hlen,hdig,hc2,by omega,STEP,by rw[hms]⟩
   ·have h9:=hxy0 h7;refine zs2 ?_;refine JF ?_;refine bw ?_;refine QR ?_;refine wD ?_;refine gQ ?_
    (refine ay (aq (sl':=[(0,dN l),(1,dN m),(5, .own 15),(6,zI (i:Nat)),(7,zI ((x*y+u+c:Nat):Int)),(8,zI (k:Nat))]) (ow':=[(15,⟨3,1,o.map hN⟩)]) az aD) ?_)
    refine zs2 ?_;refine QQ ?_;refine zs2 ?_;refine yV ?_;refine eU ?_;simp only[nx,inB];have hk1:k+1<=m.length\/(k+1<=m.length+1/\(x*y+u+c)/65536=0):=by
     refine .inr ⟨by omega,sL fun h=>?_⟩;have:=zD hl hm hil' hxd STEP h;omega
    exact⟨m.length+1-(k+1),_,by omega,(aq (sl':=[(0,dN l),(1,dN m),(5, .own 15),(6,zI (i:Nat)),(7,zI (((x*y+u+c)/65536:Nat):Int)),(8,zI ((k+1:Nat):Int))]) (ow':=[(15,⟨3,1,(o.map hN).set (i+k) (hN ((x*y+u+c)%65536))⟩)]) az aD),k+1,o.set (i+k) ((x*y+u+c)%65536),(x*y+u+c)/65536,rfl,hlen,hdig,hc2,hk1,STEP,by rw[hms]⟩
end DW
end
end Go.Proofs.YtcgjmdpcplhanaaGreat
