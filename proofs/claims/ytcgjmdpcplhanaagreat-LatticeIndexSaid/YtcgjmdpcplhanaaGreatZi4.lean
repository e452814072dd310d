/- Lemmas for the law: E4 E5 E6 -/
import Derived.Test.YtcgjmdpcplhanaaGreatZi3
namespace Go.Proofs.YtcgjmdpcplhanaaGreat
section
abbrev rO:=@List.take_append_of_le_length
abbrev yR:=@Nat.mul_right_comm
abbrev oA:=@List.map_set
abbrev Dn:=@List.map_replicate
abbrev rN:=@Classical.byContradiction
theorem zb56{p:Prop}(h:p:=by rw[rO aa,cw aa];exact h):p:=h
theorem zb14{p:Prop}(h:p:=by(first|(apply QJ;(exact rfl);(focus((apply az;(conv=>lhs;whnf);(first|done|exact rfl))));(focus((apply az;(conv=>lhs;whnf);(first|done|exact rfl))));(omega))|(apply eP;(exact rfl);(focus((apply az;(conv=>lhs;whnf);(first|done|exact rfl))));(focus((apply az;(conv=>lhs;whnf);(first|done|exact rfl))));(exact rfl)))):p:=h
theorem qB{p q:Prop}(h:q)(f:Wq q->p:=by(intro hW;(refine bK ?_;refine fJ ?_;refine zs2 ?_);exact hW.out)):p:=f ⟨h⟩
theorem Il{p q:Prop}(h:q)(f:Wq q->p:=by(intro hW;((first|refine fR rfl rfl rfl aj zb3 aj aj ?_|((try refine bn ?_);refine aL1 rfl rfl rfl zb3 ?_)));exact hW.out)):p:=f ⟨h⟩
theorem oX{p q:Prop}(h:q)(f:Wq q->p:=by(intro hW;(refine ck ?_;refine zs5 ?_;refine oR ?_;refine bc ?_);exact hW.out)):p:=f ⟨h⟩
theorem qD{p q:Prop}(h:q)(f:Wq q->p:=by(intro hW;(refine zs2 ?_;refine oX ?_);exact hW.out)):p:=f ⟨h⟩
theorem nZ{p q:Prop}(h:q)(f:Wq q->p:=by(intro hW;(refine qD ?_;refine bK ?_);exact hW.out)):p:=f ⟨h⟩
theorem I3{p q:Prop}(h:q)(f:Wq q->p:=by(intro hW;(refine mD ?_;refine zs19 ?_;refine de ?_);exact hW.out)):p:=f ⟨h⟩
theorem zs67{p q:Prop}(h:q)(f:Wq q->p:=by(intro hW;(refine aL1 rfl rfl rfl (by(first|(apply QC;(exact rfl);(focus((apply az;(conv=>lhs;whnf);(first|done|exact rfl))));(focus((apply az;(conv=>lhs;whnf);(first|done|exact rfl))));(omega))|(apply eP;(exact rfl);(focus((apply az;(conv=>lhs;whnf);(first|done|exact rfl))));(focus((apply az;(conv=>lhs;whnf);(first|done|exact rfl))));(exact rfl)))) ?_);exact hW.out)):p:=f ⟨h⟩
theorem zs65{p q:Prop}(h:q)(f:Wq q->p:=by(intro hW;(refine aL1 rfl rfl rfl (by(first|(apply sR;(exact rfl);(focus((apply az;(conv=>lhs;whnf);(first|done|exact rfl))));(exact rfl);(focus((first|exact fq|exact fm|exact fo|exact wd_pt|exact rfl)));(exact rfl);(kernel_rfl);(kernel_rfl))|(apply jN;(exact rfl);(focus((apply az;(conv=>lhs;whnf);(first|done|exact rfl))));(focus((repeat(first|exact bw|refine bC _ ?_))));(exact iB);(exact rfl);(exact rfl);(focus((first|exact fq|exact fm|exact fo|exact wd_pt|exact rfl)));(exact rfl);(kernel_rfl);(kernel_rfl))|(apply kg;(exact rfl);(focus((apply az;(conv=>lhs;whnf);(first|done|exact rfl))));(focus((repeat(first|exact bw|refine bC _ ?_))));(exact rfl);(focus((first|exact iB|(apply nQ;assumption)|assumption|(apply get_map;exact hy h6)|exact rfl)));(exact rfl);(focus((first|exact fq|exact fm|exact fo|exact wd_pt|exact rfl)));(exact rfl);(kernel_rfl);(kernel_rfl))|(apply d_load_row;(exact rfl);(focus((apply az;(conv=>lhs;whnf);(first|done|exact rfl))));(focus((repeat(first|exact bw|refine bC _ ?_))));(exact rfl);(focus(first|(apply fA;assumption)|exact rfl));(assumption);(kernel_rfl);(kernel_rfl)))) ?_);exact hW.out)):p:=f ⟨h⟩
theorem zs64{p q:Prop}(h:q)(f:Wq q->p:=by(intro hW;(refine aL1 rfl rfl rfl (by(first|(apply jM;(exact rfl);(focus((apply az;(conv=>lhs;whnf);(first|done|exact rfl))));(focus((apply az;(conv=>lhs;whnf);(first|done|exact rfl))));(kernel_rfl);(kernel_rfl);(omega);(focus((first|(apply get_map;exact hy h6)|(apply get_map;assumption)|(apply get_own;assumption)))))|(apply gX;(exact rfl);(focus((apply az;(conv=>lhs;whnf);(first|done|exact rfl))));(focus((apply az;(conv=>lhs;whnf);(first|done|exact rfl))));(focus((repeat(first|exact bw|refine bC _ ?_))));(kernel_rfl);(kernel_rfl);(focus(first|omega|(simp;omega)));(focus(first|(apply fA;assumption)|exact rfl))))) ?_);exact hW.out)):p:=f ⟨h⟩
theorem PE{p q:Prop}(h:q)(f:Wq q->p:=by(intro hW;(refine ck ?_;refine zs4 ?_;refine zs64 ?_;refine zs65 ?_;refine zs67 ?_;refine de ?_);exact hW.out)):p:=f ⟨h⟩
theorem oa{p q:Prop}(h:q)(f:Wq q->p:=by(intro hW;(refine lX ?_;refine lX ?_);exact hW.out)):p:=f ⟨h⟩
theorem Ik{p q:Prop}(h:q)(f:Wq q->p:=by(intro hW;((first|refine fR rfl rfl rfl aj zb0 aj aj ?_|((try refine bn ?_);refine aL1 rfl rfl rfl zb0 ?_)));exact hW.out)):p:=f ⟨h⟩
theorem zs54{p q:Prop}(h:q)(f:Wq q->p:=by(intro hW;((first|(apply aI 8;(focus kernel_rfl);(decide+kernel))|(apply aI 7;(focus kernel_rfl);(decide+kernel))|(apply aI 6;(focus kernel_rfl);(decide+kernel))|(apply aI 5;(focus kernel_rfl);(decide+kernel))|(apply aI 4;(focus kernel_rfl);(decide+kernel))|(apply aI 3;(focus kernel_rfl);(decide+kernel))|(apply aI 2;(focus kernel_rfl);(decide+kernel))|(apply aI 1;(focus kernel_rfl);(decide+kernel)));simp only[eH,dK,fj,dA]);exact hW.out)):p:=f ⟨h⟩
theorem Jo{p:Prop}(h:p:=by(first|(apply eP;(exact rfl);(focus((apply az;(conv=>lhs;whnf);(first|done|exact rfl))));(focus((apply az;(conv=>lhs;whnf);(first|done|exact rfl))));(exact rfl))|(apply QF;(exact rfl);(focus((apply az;(conv=>lhs;whnf);(first|done|exact rfl))));(focus((apply az;(conv=>lhs;whnf);(first|done|exact rfl))));(kernel_rfl)))):p:=h
theorem zs57{p q:Prop}(h:q)(f:Wq q->p:=by(intro hW;((first|refine fR rfl rfl rfl aj Jo aj aj ?_|((try refine bn ?_);refine aL1 rfl rfl rfl Jo ?_)));exact hW.out)):p:=f ⟨h⟩
theorem PH{p q:Prop}(h:q)(f:Wq q->p:=by(intro hW;(refine zs54 ?_;refine oa ?_;refine Il ?_;refine Ik ?_;refine oa ?_;refine Il ?_;refine Ik ?_;refine zs57 ?_;refine kH ?_);exact hW.out)):p:=f ⟨h⟩
theorem xh{p q:Prop}(h:q)(f:Wq q->p:=by(intro hW;(refine aL1 rfl rfl rfl (by(apply ux;(exact rfl);(exact lu))) ?_);exact hW.out)):p:=f ⟨h⟩
theorem PJ{p q:Prop}(h:q)(f:Wq q->p:=by(intro hW;(refine gar ?_;refine xh ?_;refine bc ?_);exact hW.out)):p:=f ⟨h⟩
theorem lg{p q:Prop}(h:q)(f:Wq q->p:=by(intro hW;(refine PJ ?_;refine zs2 ?_);exact hW.out)):p:=f ⟨h⟩
theorem zs69{p q:Prop}(h:q)(f:Wq q->p:=by(intro hW;((refine pI (i:=i+k) rfl rfl rfl cO cO aH aj tz aj dC aj ah tA ?_));exact hW.out)):p:=f ⟨h⟩
theorem rq{p q:Prop}(h:q)(f:Wq q->p:=by(intro hW;(refine aL1 rfl rfl rfl zb4 ?_);exact hW.out)):p:=f ⟨h⟩
theorem sY{p q:Prop}(h:q)(f:Wq q->p:=by(intro hW;(refine aL1 rfl rfl rfl zb14 ?_);exact hW.out)):p:=f ⟨h⟩
theorem PC{p q:Prop}(h:q)(f:Wq q->p:=by(intro hW;(refine ck ?_;refine zs4 ?_;refine sY ?_;refine zs4 ?_;refine Im ?_;refine rq ?_;refine zs69 ?_;refine bc ?_);exact hW.out)):p:=f ⟨h⟩
theorem CU{p q:Prop}(h:q)(f:Wq q->p:=by(intro hW;(refine aL1 rfl rfl rfl Jo ?_);exact hW.out)):p:=f ⟨h⟩
theorem PI{p q:Prop}(h:q)(f:Wq q->p:=by(intro hW;(refine mD ?_;refine zs4 ?_;refine zs5 ?_;refine CU ?_;refine bc ?_);exact hW.out)):p:=f ⟨h⟩
theorem jy{p q:Prop}(h:q)(f:Wq q->p:=by(intro hW;(refine qD ?_;refine bs ?_);exact hW.out)):p:=f ⟨h⟩
theorem Ii{p q:Prop}(h:q)(f:Wq q->p:=by(intro hW;((first|(apply aI 11;(focus kernel_rfl);(decide+kernel))|(apply aI 10;(focus kernel_rfl);(decide+kernel))|(apply aI 9;(focus kernel_rfl);(decide+kernel))|(apply aI 8;(focus kernel_rfl);(decide+kernel))|(apply aI 7;(focus kernel_rfl);(decide+kernel))|(apply aI 6;(focus kernel_rfl);(decide+kernel))|(apply aI 5;(focus kernel_rfl);(decide+kernel))|(apply aI 4;(focus kernel_rfl);(decide+kernel)));simp only[eH,dK,fj,dA]);exact hW.out)):p:=f ⟨h⟩
theorem zb15{p:Prop}(h:p:=by(first|(apply QG;(exact rfl);(focus((apply az;(conv=>lhs;whnf);(first|done|exact rfl))));(focus((apply az;(conv=>lhs;whnf);(first|done|exact rfl))));(omega))|(apply eP;(exact rfl);(focus((apply az;(conv=>lhs;whnf);(first|done|exact rfl))));(focus((apply az;(conv=>lhs;whnf);(first|done|exact rfl))));(exact rfl)))):p:=h
theorem zs58{p q:Prop}(h:q)(f:Wq q->p:=by(intro hW;((first|(apply aI 9;(focus kernel_rfl);(decide+kernel))|(apply aI 8;(focus kernel_rfl);(decide+kernel))|(apply aI 7;(focus kernel_rfl);(decide+kernel))|(apply aI 6;(focus kernel_rfl);(decide+kernel))|(apply aI 5;(focus kernel_rfl);(decide+kernel))|(apply aI 4;(focus kernel_rfl);(decide+kernel))|(apply aI 3;(focus kernel_rfl);(decide+kernel))|(apply aI 2;(focus kernel_rfl);(decide+kernel)));simp only[eH,dK,fj,dA]);exact hW.out)):p:=f ⟨h⟩
theorem zb63{p:Prop}(h:p:=by first|(apply Ns;assumption)|exact mP _|exact rfl):p:=h
theorem zb5{p:Prop}(h:p:=by(first|(apply Fz;(exact rfl);(focus((apply az;(conv=>lhs;whnf);(first|done|exact rfl))));(focus(first|exact rfl|(apply aB;omega)|assumption|(simp;done)));(exact lu))|(apply FD;(exact rfl);(focus((apply az;(conv=>lhs;whnf);(first|done|exact rfl))));(focus(first|exact rfl|(apply aF;omega)|assumption|(simp;done)));(focus((apply az;(conv=>lhs;whnf);(first|done|exact rfl)))))|(apply d_pick;(exact rfl);(focus((apply az;(conv=>lhs;whnf);(first|done|exact rfl))));(exact lu);(focus((apply az;(conv=>lhs;whnf);(first|done|exact rfl))));(exact rfl)))):p:=h
theorem uI{p q:Prop}(h:q)(f:Wq q->p:=by(intro hW;(refine aL1 rfl rfl rfl zb5 ?_);exact hW.out)):p:=f ⟨h⟩
theorem lO{p q:Prop}(h:q)(f:Wq q->p:=by(intro hW;(refine uI ?_;refine bc ?_);exact hW.out)):p:=f ⟨h⟩
theorem Ij{p q:Prop}(h:q)(f:Wq q->p:=by(intro hW;((first|(refine aLs rfl rfl rfl rfl ?_ ?_;(focus(apply br;(conv=>lhs;whnf);(first|done|exact rfl|(apply bq;(first|(apply aB;omega)|(apply aF;omega)|assumption|(simp;done)))))))|refine aLw rfl rfl rfl rfl cE Jk ?_));exact hW.out)):p:=f ⟨h⟩
theorem sZ{p q:Prop}(h:q)(f:Wq q->p:=by(intro hW;((first|(refine aLs rfl rfl rfl rfl ?_ ?_;(focus(apply br;(conv=>lhs;whnf);(first|done|exact rfl|(apply bq;(first|(apply aB;omega)|(apply aF;omega)|assumption|(simp;done)))))))|refine aLw rfl rfl rfl rfl cE xp ?_));exact hW.out)):p:=f ⟨h⟩
theorem Aw{p q:Prop}(h:q)(f:Wq q->p:=by(intro hW;((first|(refine aLs rfl rfl rfl rfl ?_ ?_;(focus(apply br;(conv=>lhs;whnf);(first|done|exact rfl|(apply bq;(first|(apply aB;omega)|(apply aF;omega)|assumption|(simp;done)))))))|refine aLw rfl rfl rfl rfl cE zb2 ?_));exact hW.out)):p:=f ⟨h⟩
theorem PG{p q:Prop}(h:q)(f:Wq q->p:=by(intro hW;(refine ck ?_;refine zs5 ?_;refine oR ?_;refine fS ?_;refine zs8 ?_;refine Aw ?_;refine Ij ?_;refine uI ?_;refine fS ?_;refine sZ ?_;refine lO ?_);exact hW.out)):p:=f ⟨h⟩
theorem I0{p q:Prop}(h:q)(f:Wq q->p:=by(intro hW;(refine ck ?_;refine zs5 ?_;refine oR ?_;refine fS ?_;refine sZ ?_;refine lO ?_);exact hW.out)):p:=f ⟨h⟩
theorem PD{p q:Prop}(h:q)(f:Wq q->p:=by(intro hW;(refine ck ?_;refine zs4 ?_;refine zs4 ?_;refine sY ?_;refine rq ?_;refine gL ?_;refine sY ?_;refine de ?_);exact hW.out)):p:=f ⟨h⟩
theorem PF{p q:Prop}(h:q)(f:Wq q->p:=by(intro hW;(refine ck ?_;refine rq ?_;refine gL ?_;refine zs4 ?_;refine zs67 ?_;refine de ?_);exact hW.out)):p:=f ⟨h⟩
theorem jB{p q:Prop}(h:q)(f:Wq q->p:=by(intro hW;(refine zs2 ?_;refine fJ ?_;refine zs2 ?_);exact hW.out)):p:=f ⟨h⟩
end
section
open Go.RowKit
namespace DW
theorem T9{a b:Nat}(h:hd a=hd b):a=b:=by rw[<-jJ a,<-jJ b,h]
theorem BZ{a b:Nat}(h:(hd a).length<(hd b).length):a<b:=by
 have:=Dg.kS (b:=65536) aq (Dg.du aq a).1 (Dg.du aq b).1 h;rwa[(Dg.du aq a).2,(Dg.du aq b).2]at this
theorem Mh{a b i:Nat}(hi:i<(hd a).length)(hl:(hd a).length=(hd b).length)(hd':(hd a).drop (i+1)=(hd b).drop (i+1))(h:(hd a).getD i 0<(hd b).getD i 0):a<b:=by
 have:=Dg.lex_lt (jV a) hi hl hd' h;rwa[jJ,jJ]at this
theorem He{a i:Nat}(hi:i<(hd a).length):(hd a).drop i=(hd a).getD i 0::(hd a).drop (i+1):=by
 rw[qL hi,ay,aZ hi];rfl
theorem qe{a i:Nat}(hi:i<(hd a).length):(hd a)[i]?=some ((hd a).getD i 0):=rf hi
theorem wL{l:List Nat}{i:Nat}(h:l.length<=i):l.getD i 0=0:=by rw[ay,gy h];rfl
set_option maxRecDepth 20000
set_option maxHeartbeats 1000000
theorem LW(a b:Nat)(ha:(hd a).length<=900000000)(hb:(hd b).length<=900000000):Fn Tryz.prog 153 [dN (hd a),dN (hd b)] (.sc (.bool (decide (a<b)))):=by
 refine bh Tryz.func153 ah rfl rfl rfl fun X0=>?_;simp only[aK];by_cases hl:(hd a).length=(hd b).length
 ·refine zs2 ?_;refine lg ?_;refine PI ?_;refine bK ?_;refine I3 ?_;refine zs2 ?_
  (refine av (aE (sl':=[(0,dN (hd a)),(1,dN (hd b)),(5,zI ((hd a).length-1))]) (ow':=[]) aO aS) ?_)
  refine bB (fun r s=>r<=(hd a).length/\(hd a).drop r=(hd b).drop r/\s=⟨[(0,dN (hd a)),(1,dN (hd b)),(5,zI (r-1))],[]⟩) (m:=(hd a).length) ⟨af _,by rw[rY,hl,rY],rfl⟩ fun r s hs=>?_;obtain⟨h1,h2,rfl⟩:=hs;by_cases hr:r=0
  ·have e:a=b:=T9 (by subst hr;simpa using h2);refine zs2 ?_;refine iZ ?_;refine bK ?_;refine lg ?_;rw[show decide (a<b)=false from aF aa];exact⟨_,Sh.refl, .one (.tmp 4) _ rfl (.tmp 4 rfl)⟩
  ·obtain⟨i,rfl⟩:∃i,r=i+1:=⟨r-1,by omega⟩;have hi:i<(hd a).length:=by omega
   have hi':i<(hd b).length:=by omega
   have hx:=qe hi;have hy:=qe hi';have hc:((i+1:Nat):Int)-1=(i:Int):=by omega
   have k1:=He hi;have k2:=He hi';have k3:(hd a).getD i 0<(hd b).getD i 0->a<b:=Mh hi hl h2;have k4:(hd b).getD i 0<(hd a).getD i 0->b<a:=Mh hi' hl.symm h2.symm;obtain⟨x,hxd⟩:∃x,x=(hd a).getD i 0:=⟨_,rfl⟩;obtain⟨y,hyd⟩:∃y,y=(hd b).getD i 0:=⟨_,rfl⟩;rw[<-hxd]at hx k1 k3 k4;rw[<-hyd]at hy k2 k3 k4;by_cases hxy:x=y
   ·have k5:(hd a).drop i=(hd b).drop i:=by rw[k1,k2,hxy,h2]
    refine zs2 ?_;refine iZ ?_;refine bs ?_;refine PH ?_;refine bK ?_;refine vY ?_;refine zs2 ?_;simp only[nx,inB];exact⟨i,_,by omega,(aE (sl':=[(0,dN (hd a)),(1,dN (hd b)),(5,zI ((i:Int)-1))]) (ow':=[]) aO aS),by omega,k5,rfl⟩
   ·have k5 : decide ((x : Int) < (y : Int)) = decide (a < b) := by
     by_cases h:x<y
     ·rw[aB aa,aB (k3 h)]
     ·rw[aF aa,aF (by have:=k4 aa;omega)]
    refine zs2 ?_;refine iZ ?_;refine bs ?_;refine PH ?_;refine bs ?_;refine zs58 ?_;refine oa ?_;refine Il ?_;refine Ik ?_;refine oa ?_;refine Il ?_;refine Ik ?_;(first|refine fR rfl rfl rfl aj Jk aj aj ?_|((try refine bn ?_);refine aL1 rfl rfl rfl Jk ?_));refine tf ?_;refine kH ?_;refine zs2 ?_;rw[<-k5];exact⟨_,Sh.refl, .one (.tmp 4) _ rfl (.tmp 4 rfl)⟩
 ·have k5 : decide (((hd a).length : Int) < ((hd b).length : Int)) = decide (a < b) := by
   by_cases h:(hd a).length<(hd b).length
   ·rw[aB aa,aB (BZ h)]
   ·rw[aF aa,aF (by have:=BZ (a:=b) (b:=a) aa;omega)]
  refine zs2 ?_;refine lg ?_;refine PI ?_;refine bs ?_;refine mD ?_;refine zs4 ?_;refine zs5 ?_;refine oR ?_;refine cS ?_;rw[<-k5];exact⟨_,Sh.refl, .one (.tmp 4) _ rfl (.tmp 4 rfl)⟩
theorem Lm{a b o:List Nat}{i c:Nat}(hi:o.length=i)(h:Dg.vl 65536 o+c*65536^i=Dg.vl 65536 (a.take i)+Dg.vl 65536 (b.take i)):
  Dg.vl 65536 (o++[(c+a.getD i 0+b.getD i 0)%65536])+(c+a.getD i 0+b.getD i 0)/65536*65536^(i+1)=Dg.vl 65536 (a.take (i+1))+Dg.vl 65536 (b.take (i+1)):=by
 have:=Dg.qP (B:=65536) (a:=a) (b:=b) (o:=o++[0]) (i:=i) (c:=c) cX zb56;rw[show a.getD i 0+b.getD i 0+c=c+a.getD i 0+b.getD i 0 by omega,Dg.lU cX,rO aa,cw aa]at this;exact this
theorem GU(a b:Nat)(ha:(hd a).length<=400000000)(hb:(hd b).length<=400000000):Fn Tryz.prog 152 [dN (hd a),dN (hd b)] (dN (hd (a+b))):=by
 refine bh Tryz.func152 ah rfl rfl rfl fun X0=>?_;simp only[aK];refine td ?_;refine jA ?_;refine fI ?_;refine av (fG (t:=5) (k:=5) (T:=3) (wd:=1) jf rfl rfl cG) ?_
 (refine av (aE (sl':=[(0,dN (hd a)),(1,dN (hd b)),(5, .own 5),(6,zI 0),(7,zI 0)]) (ow':=[(5,⟨3,1,[]⟩)]) aO aS) ?_)
 obtain⟨M,hM⟩:∃M,M=max (hd a).length (hd b).length:=⟨_,rfl⟩;refine bB (fun r s=>∃i o c,r=M+1-i/\o.length=i/\Dg.dig 65536 o/\c<=1/\(i<=M\/(i<=M+1/\c=0))/\Dg.vl 65536 o+c*65536^i=Dg.vl 65536 ((hd a).take i)+Dg.vl 65536 ((hd b).take i)/\s=⟨[(0,dN (hd a)),(1,dN (hd b)),(5, .own 5),(6,zI (c:Nat)),(7,zI (i:Nat))],[(5,⟨3,1,o.map hN⟩)]⟩) (m:=M+1) ⟨0,[],0,by omega,rfl,fun _ h=>(by cases h),by omega, .inl aa,by simp[Dg.vl],rfl⟩ fun r s hs=>?_;obtain⟨i,o,c,rfl,ho,hdo,hc,hiM,hv,rfl⟩:=hs;have STEP:=Lm (a:=hd a) (b:=hd b) ho hv;have hxl:(hd a).getD i 0<65536:=Dg.bR (jV a) aq i;have hyl:(hd b).getD i 0<65536:=Dg.bR (jV b) aq i;have hx:i<(hd a).length->(hd a)[i]?=some ((hd a).getD i 0):=qe;have hy:i<(hd b).length->(hd b)[i]?=some ((hd b).getD i 0):=qe;have hx0:(hd a).length<=i->(hd a).getD i 0=0:=wL;have hy0:(hd b).length<=i->(hd b).getD i 0=0:=wL;obtain⟨x,hxd⟩:∃x,x=(hd a).getD i 0:=⟨_,rfl⟩;obtain⟨y,hyd⟩:∃y,y=(hd b).getD i 0:=⟨_,rfl⟩;rw[<-hxd]at STEP hxl hx hx0;rw[<-hyd]at STEP hyl hy hy0;have hdig:=qp hdo (et (c+x+y) (by omega:0<65536));have hms:=qa o ((c+x+y)%65536);have hlen:(o++[(c+x+y)%65536]).length=i+1:=by simp[ho]
 have kx:(hd a).length<=M:=by omega
 have ky:(hd b).length<=M:=by omega
 have kM:M<=(hd a).length\/M<=(hd b).length:=by omega
 have kM2:M<=400000000:=by omega
 clear hM hxd hyd;by_cases hend:M<=i/\c=0
 ·obtain⟨h1,h2⟩:=hend;have e:Dg.vl 65536 o=a+b:=by
   subst h2;rw[cw aa,cw aa,jJ,jJ]at hv;omega
  have T:=ze (l:=o) aa hdo e;refine zs2 ?_;refine PG ?_;refine bK ?_;refine av (ao (k:=5) aH aR aQ) ?_;refine Cp ?_;refine zs2 ?_;exact⟨_,Sh.refl, .one (.tmp 4) _ rfl (.tmp 4 rfl)⟩
 ·have hcases:((i<(hd a).length)\/(i<(hd b).length/\(hd a).length<=i))\/(c>0/\(hd a).length<=i/\(hd b).length<=i):=by omega
  have hxe:i<(hd a).length\/((hd a).length<=i/\x=0):=by
   by_cases h:i<(hd a).length
   ·exact .inl h
   ·exact .inr ⟨by omega,hx0 aa⟩
  have hye:i<(hd b).length\/((hd b).length<=i/\y=0):=by
   by_cases h:i<(hd b).length
   ·exact .inl h
   ·exact .inr ⟨by omega,hy0 aa⟩
  rcases hcases with(h1|⟨h1,h2⟩)|⟨h1,h2,h3⟩;all_goals
   rcases hxe with h4|⟨h4,h5⟩;all_goals
    rcases hye with h6|⟨h6,h7⟩;all_goals
     first
      |(exfalso;omega;done)
      | ((refine zs2 ?_); refine PG ?_; (refine zs2 ?_)
         refine gY ?_;refine qD ?_;refine zs2 ?_
         (first|(refine gY ?_;(refine zs2 ?_);(refine gar ?_;refine zs4 ?_;refine zs4 ?_;refine zs4 ?_;(refine aL1 rfl rfl rfl (by(first|(apply jM;(exact rfl);(focus((apply az;(conv=>lhs;whnf);(first|done|exact rfl))));(focus((apply az;(conv=>lhs;whnf);(first|done|exact rfl))));(kernel_rfl);(kernel_rfl);(omega);(focus((first|(apply get_map;exact hx h4)|(apply get_map;assumption)|(apply get_own;assumption)))))|(apply gX;(exact rfl);(focus((apply az;(conv=>lhs;whnf);(first|done|exact rfl))));(focus((apply az;(conv=>lhs;whnf);(first|done|exact rfl))));(focus((repeat(first|exact bw|refine bC _ ?_))));(kernel_rfl);(kernel_rfl);(focus(first|omega|(simp;omega)));(focus(first|(apply fA;assumption)|exact rfl))))) ?_);(refine aL1 rfl rfl rfl (by(first|(apply sR;(exact rfl);(focus((apply az;(conv=>lhs;whnf);(first|done|exact rfl))));(exact rfl);(focus((first|exact fq|exact fm|exact fo|exact wd_pt|exact rfl)));(exact rfl);(kernel_rfl);(kernel_rfl))|(apply jN;(exact rfl);(focus((apply az;(conv=>lhs;whnf);(first|done|exact rfl))));(focus((repeat(first|exact bw|refine bC _ ?_))));(exact iB);(exact rfl);(exact rfl);(focus((first|exact fq|exact fm|exact fo|exact wd_pt|exact rfl)));(exact rfl);(kernel_rfl);(kernel_rfl))|(apply kg;(exact rfl);(focus((apply az;(conv=>lhs;whnf);(first|done|exact rfl))));(focus((repeat(first|exact bw|refine bC _ ?_))));(exact rfl);(focus((first|exact iB|(apply nQ;assumption)|assumption|(apply get_map;exact hx h4)|exact rfl)));(exact rfl);(focus((first|exact fq|exact fm|exact fo|exact wd_pt|exact rfl)));(exact rfl);(kernel_rfl);(kernel_rfl))|(apply d_load_row;(exact rfl);(focus((apply az;(conv=>lhs;whnf);(first|done|exact rfl))));(focus((repeat(first|exact bw|refine bC _ ?_))));(exact rfl);(focus(first|(apply fA;assumption)|exact rfl));(assumption);(kernel_rfl);(kernel_rfl)))) ?_);refine sY ?_;refine zs6 ?_;refine bc ?_);(refine zs2 ?_))|(refine ib ?_;(refine zs2 ?_)))
         refine qD ?_;refine zs2 ?_
         (first|(refine gY ?_;(refine zs2 ?_);(refine gar ?_;refine zs4 ?_;refine zs4 ?_;refine zs4 ?_;refine zs64 ?_;refine zs65 ?_;refine sY ?_;refine zs6 ?_;refine bc ?_);(refine zs2 ?_))|(refine ib ?_;(refine zs2 ?_)))
         (refine av (aE (sl':=[(0,dN (hd a)),(1,dN (hd b)),(5, .own 5),(6,zI ((c+x+y:Nat):Int)),(7,zI (i:Nat))]) (ow':=[(5,⟨3,1,o.map hN⟩)]) aO aS) ?_)
         refine zs2 ?_;refine ck ?_;refine Im ?_;refine pJ ?_;refine Ax ?_;refine cS ?_;refine yw ?_;refine jB ?_;simp only[nx,inB];exact⟨M+1-(i+1),_,by omega,(aE (sl':=[(0,dN (hd a)),(1,dN (hd b)),(5, .own 5),(6,zI (((c+x+y)/65536:Nat):Int)),(7,zI ((i+1:Nat):Int))]) (ow':=[(5,⟨3,1,o.map hN++[hN ((c+x+y)%65536)]⟩)]) aO aS),i+1,o++[(c+x+y)%65536],(c+x+y)/65536,rfl,hlen,hdig,by omega,by omega,STEP,by rw[hms]⟩)
end DW
end
section
open Go.RowKit
namespace DW
theorem Cc{a b o:List Nat}{i c:Nat}(hi:o.length=i)(h:Dg.vl 65536 o+Dg.vl 65536 (b.take i)=Dg.vl 65536 (a.take i)+c*65536^i)(hc:b.getD i 0+c<=a.getD i 0):
  Dg.vl 65536 (o++[a.getD i 0-b.getD i 0-c])+Dg.vl 65536 (b.take (i+1))=Dg.vl 65536 (a.take (i+1))+0*65536^(i+1):=by
 have:=Dg.Ey (B:=65536) (a:=a) (b:=b) (o:=o++[0]) (i:=i) (c:=c) cX zb56 hc;rw[Dg.lU cX,rO aa,cw aa]at this;exact this
theorem Cd{a b o:List Nat}{i c:Nat}(hi:o.length=i)(h:Dg.vl 65536 o+Dg.vl 65536 (b.take i)=Dg.vl 65536 (a.take i)+c*65536^i)(hb:b.getD i 0+c<=a.getD i 0+65536):
  Dg.vl 65536 (o++[a.getD i 0+65536-b.getD i 0-c])+Dg.vl 65536 (b.take (i+1))=Dg.vl 65536 (a.take (i+1))+1*65536^(i+1):=by
 have:=Dg.Ez (B:=65536) (a:=a) (b:=b) (o:=o++[0]) (i:=i) (c:=c) cX zb56 hb;rw[Dg.lU cX,rO aa,cw aa]at this;exact this
set_option maxRecDepth 20000
set_option maxHeartbeats 1000000
theorem ue(a b:Nat)(ha:(hd a).length<=800000000)(hba:b<=a):Fn Tryz.prog 154 [dN (hd a),dN (hd b)] (dN (hd (a-b))):=by
 refine bh Tryz.func154 ah rfl rfl rfl fun X0=>?_;simp only[aK];have hlb:(hd b).length<=(hd a).length:=kb hba;refine td ?_;refine jA ?_;refine fI ?_;refine av (fG (t:=5) (k:=5) (T:=3) (wd:=1) jf rfl rfl cG) ?_
 (refine av (aE (sl':=[(0,dN (hd a)),(1,dN (hd b)),(5, .own 5),(6,zI 0),(7,zI 0)]) (ow':=[(5,⟨3,1,[]⟩)]) aO aS) ?_)
 refine bB (fun r s=>∃i o c,r=(hd a).length-i/\i<=(hd a).length/\o.length=i/\Dg.dig 65536 o/\c<=1/\Dg.vl 65536 o+Dg.vl 65536 ((hd b).take i)=Dg.vl 65536 ((hd a).take i)+c*65536^i/\s=⟨[(0,dN (hd a)),(1,dN (hd b)),(5, .own 5),(6,zI (c:Nat)),(7,zI (i:Nat))],[(5,⟨3,1,o.map hN⟩)]⟩) (m:=(hd a).length) ⟨0,[],0,by omega,by omega,rfl,fun _ h=>(by cases h),by omega,by simp[Dg.vl],rfl⟩ fun r s hs=>?_;obtain⟨i,o,c,rfl,hia,ho,hdo,hc,hv,rfl⟩:=hs;by_cases hend:i=(hd a).length
 ·have e : Dg.vl 65536 o = a - b := by
   rw[cw aa,cw aa,jJ,jJ]at hv;have h1:=Dg.cg hdo;rw[ho]at h1;rcases(show c=0\/c=1 by omega)with h|h
   ·subst h;rw[lk]at hv;omega
   ·subst h;rw[cR]at hv;omega
  have T:=ze (l:=o) aa hdo e;clear hv;refine nZ ?_;refine av (ao (k:=5) aH aR aQ) ?_;refine Cp ?_;refine zs2 ?_;exact⟨_,Sh.refl, .one (.tmp 4) _ rfl (.tmp 4 rfl)⟩
 ·have hxl:(hd a).getD i 0<65536:=Dg.bR (jV a) aq i;have hyl:(hd b).getD i 0<65536:=Dg.bR (jV b) aq i;have hx:(hd a)[i]?=some ((hd a).getD i 0):=qe aa;have hy:i<(hd b).length->(hd b)[i]?=some ((hd b).getD i 0):=qe;have hy0:(hd b).length<=i->(hd b).getD i 0=0:=wL;have LO:=Cc (a:=hd a) (b:=hd b) ho hv;have HI:=Cd (a:=hd a) (b:=hd b) ho hv;obtain⟨x,hxd⟩:∃x,x=(hd a).getD i 0:=⟨_,rfl⟩;obtain⟨y,hyd⟩:∃y,y=(hd b).getD i 0:=⟨_,rfl⟩;rw[<-hxd]at hxl hx LO HI;rw[<-hyd]at hyl hy hy0 LO HI;clear hxd hyd hv;have hye:i<(hd b).length\/((hd b).length<=i/\y=0):=by
   by_cases h:i<(hd b).length
   ·exact .inl h
   ·exact .inr ⟨by omega,hy0 aa⟩
  have hlen:∀q,(o++[q]).length=i+1:=fun q=>by simp[ho]
  by_cases hge:y+c<=x
  ·have LO':=LO hge;clear LO HI;rcases hye with h6|⟨h6,h7⟩;all_goals
    refine jy ?_;refine PF ?_;refine qD ?_;refine zs2 ?_
    (first|(refine gY ?_;(refine zs2 ?_);refine PE ?_;(refine zs2 ?_))|(refine ib ?_;(refine zs2 ?_)))
    refine oW ?_;refine iZ ?_;refine zs2 ?_;refine ib ?_
    (refine av (aE (sl':=[(0,dN (hd a)),(1,dN (hd b)),(5, .own 5),(6,zI 0),(7,zI (i:Nat)),(8,hN (x-y-c))]) (ow':=[(5,⟨3,1,o.map hN⟩)]) aO aS) ?_)
    refine zs2 ?_;refine vX ?_;refine jB ?_;simp only[nx,inB];exact⟨(hd a).length-(i+1),_,by omega,(aE (sl':=[(0,dN (hd a)),(1,dN (hd b)),(5, .own 5),(6,zI ((0:Nat):Int)),(7,zI ((i+1:Nat):Int))]) (ow':=[(5,⟨3,1,o.map hN++[hN (x-y-c)]⟩)]) aO aS),i+1,o++[x-y-c],0,rfl,by omega,hlen _,qp hdo aa,by omega,LO',by rw[qa]⟩
  ·have HI':=HI aa;clear LO HI;rcases hye with h6|⟨h6,h7⟩;all_goals
    refine jy ?_;refine PF ?_;refine qD ?_;refine zs2 ?_
    (first|(refine gY ?_;(refine zs2 ?_);refine PE ?_;(refine zs2 ?_))|(refine ib ?_;(refine zs2 ?_)))
    refine oW ?_;refine iZ ?_;refine bs ?_;refine cF ?_;refine CW ?_;refine zs6 ?_;refine kp ?_;refine dX ?_
    (refine av (aE (sl':=[(0,dN (hd a)),(1,dN (hd b)),(5, .own 5),(6,zI 1),(7,zI (i:Nat)),(8,hN (x+65536-y-c))]) (ow':=[(5,⟨3,1,o.map hN⟩)]) aO aS) ?_)
    refine zs2 ?_;refine vX ?_;refine jB ?_;simp only[nx,inB];exact⟨(hd a).length-(i+1),_,by omega,(aE (sl':=[(0,dN (hd a)),(1,dN (hd b)),(5, .own 5),(6,zI ((1:Nat):Int)),(7,zI ((i+1:Nat):Int))]) (ow':=[(5,⟨3,1,o.map hN++[hN (x+65536-y-c)]⟩)]) aO aS),i+1,o++[x+65536-y-c],1,rfl,by omega,hlen _,qp hdo aa,by omega,HI',by rw[qa]⟩
end DW
end
section
open Go.RowKit
namespace DW
theorem zi{l m o:List Nat}{i k x c:Nat}(hl:Dg.dig 65536 l)(hm:Dg.dig 65536 m)(hil:i<l.length)(hx:x=l.getD i 0)(h:Dg.vl 65536 o+c*65536^(i+k)=Dg.vl 65536 (l.take i)*Dg.vl 65536 m+x*Dg.vl 65536 (m.take k)*65536^i)(hc:c≠0):k<=m.length:=by
 apply dG;intro hlt;rw[cw (l:=m) aa]at h;have e:Dg.vl 65536 (l.take (i+1))*Dg.vl 65536 m=Dg.vl 65536 (l.take i)*Dg.vl 65536 m+x*Dg.vl 65536 m*65536^i:=by
  rw[Dg.dw,<-hx,bV,yR]
 have h1:=Dg.cg (Dg.iW hl (i+1));rw[bf,dH aa]at h1;have h2:=Dg.cg hm;have h3:Dg.vl 65536 (l.take (i+1))*Dg.vl 65536 m<=65536^(i+1)*65536^m.length:=cn (bN h1) (bN h2);rw[<-ff]at h3;have h4:(65536:Nat)^(i+1+m.length)<=65536^(i+k):=cv aq aa;have h5:1*65536^(i+k)<=c*65536^(i+k):=dh _ aa;have h6:0<(65536:Nat)^(i+1+m.length):=eC aq;have h7:Dg.vl 65536 (l.take (i+1))*Dg.vl 65536 m<65536^(i+1)*65536^m.length:=by
  by_cases hz:Dg.vl 65536 m=0
  ·rw[hz,jE,<-ff];exact h6
  ·exact uX h1 (bN h2) aa
 rw[<-ff]at h7;omega
theorem JD{l m o:List Nat}{i k x:Nat}(hk:m.length<=k)(hx:x=l.getD i 0)(h:Dg.vl 65536 o+0*65536^(i+k)=Dg.vl 65536 (l.take i)*Dg.vl 65536 m+x*Dg.vl 65536 (m.take k)*65536^i):Dg.vl 65536 o=Dg.vl 65536 (l.take (i+1))*Dg.vl 65536 m:=by
 rw[cw hk,lk,bZ]at h;rw[h,Dg.dw,<-hx,bV,yR x]
theorem qj{o:List Nat}{j:Nat}(h:j<o.length):o[j]?=some (o.getD j 0):=rf h
theorem map_set(o:List Nat)(j v:Nat):(o.set j v).map hN=(o.map hN).set j (hN v):=oA
set_option maxRecDepth 20000
set_option maxHeartbeats 1000000
theorem Dw(l m:List Nat)(hl:Dg.dig 65536 l)(hm:Dg.dig 65536 m)(hll:l.length<=400000000)(hml:m.length<=400000000):Fn Tryz.prog 155 [dN l,dN m] (dN (hd (Dg.vl 65536 l*Dg.vl 65536 m))):=by
 refine bh Tryz.func155 ah rfl rfl rfl fun X0=>?_;simp only[aK];obtain⟨L,hL⟩:∃L,L=l.length+m.length+1:=⟨_,rfl⟩;have hLc:(l.length:Int)+(m.length:Int)+1=(L:Int):=by omega
 refine td ?_;refine mD ?_;refine zs4 ?_;refine zs5 ?_;refine sY ?_;refine CW ?_;(refine M6 (k:=15) (T:=Tryz.prog.elem 40) (zv:=(.int .i64 0)) (d0:=(.sc (.int .i64 0))) (wd:=1) rfl rfl rfl rfl cO cO ah ah aj aj aj aj aj aa zb63 aj cG ?_);refine cS ?_;refine fI ?_
 (refine av (aE (sl':=[(0,dN l),(1,dN m),(5, .own 15),(6,zI 0)]) (ow':=[(15,⟨3,1,List.replicate L (zI 0)⟩)]) aO aS) ?_)
 refine bB (fun r s=>∃i o,r=l.length-i/\i<=l.length/\o.length=L/\Dg.dig 65536 o/\Dg.vl 65536 o=Dg.vl 65536 (l.take i)*Dg.vl 65536 m/\s=⟨[(0,dN l),(1,dN m),(5, .own 15),(6,zI (i:Nat))],[(15,⟨3,1,o.map hN⟩)]⟩) (m:=l.length) ⟨0,List.replicate L 0,by omega,by omega,by simp,Dg.iT aq _,by rw[Dg.tJ];simp[Dg.vl],by rw[Dn];rfl⟩ fun r s hs=>?_;obtain⟨i,o,rfl,hil,ho,hdo,hv,rfl⟩:=hs;by_cases hend:i=l.length
 ·have e:Dg.vl 65536 o=Dg.vl 65536 l*Dg.vl 65536 m:=by rw[hv,cw aa]
  have T:=ze (l:=o) aa hdo e;clear hv;refine nZ ?_;refine av (ao (k:=15) aH aR aQ) ?_;refine Cp ?_;refine zs2 ?_;exact⟨_,Sh.refl, .one (.tmp 4) _ rfl (.tmp 4 rfl)⟩
 ·have hil':i<l.length:=by omega
  obtain⟨x,hxd⟩:∃x,x=l.getD i 0:=⟨_,rfl⟩;have hx:l[i]?=some x:=by rw[hxd];exact qj hil'
  have hxl:x<65536:=by rw[hxd];exact Dg.bR hl aq i
  refine jy ?_;refine yy ?_;refine oW ?_
  (refine av (aE (sl':=[(0,dN l),(1,dN m),(5, .own 15),(6,zI (i:Nat)),(7,zI 0),(8,zI 0)]) (ow':=[(15,⟨3,1,o.map hN⟩)]) aO aS) ?_)
  refine bB (fun r s=>∃k o c,r=m.length+1-k/\o.length=L/\Dg.dig 65536 o/\c<65536/\(k<=m.length\/(k<=m.length+1/\c=0))/\Dg.vl 65536 o+c*65536^(i+k)=Dg.vl 65536 (l.take i)*Dg.vl 65536 m+x*Dg.vl 65536 (m.take k)*65536^i/\s=⟨[(0,dN l),(1,dN m),(5, .own 15),(6,zI (i:Nat)),(7,zI (c:Nat)),(8,zI (k:Nat))],[(15,⟨3,1,o.map hN⟩)]⟩) (m:=m.length+1) ⟨0,o,0,by omega,ho,hdo,by omega, .inl aa,by rw[hv];simp[Dg.vl],rfl⟩ fun r s hs=>?_;clear hv hdo ho;obtain⟨k,o,c,rfl,ho,hdo,hc,hkm,hv,rfl⟩:=hs;by_cases hend2:m.length<=k/\c=0
  ·obtain⟨h1,h2⟩:=hend2;have e:Dg.vl 65536 o=Dg.vl 65536 (l.take (i+1))*Dg.vl 65536 m:=by subst h2;exact JD h1 hxd hv
   clear hv;refine zs2 ?_;refine I0 ?_;refine qB ?_;simp only[nx,inB];exact⟨l.length-(i+1),_,by omega,(aE (sl':=[(0,dN l),(1,dN m),(5, .own 15),(6,zI ((i+1:Nat):Int))]) (ow':=[(15,⟨3,1,o.map hN⟩)]) aO aS),i+1,o,rfl,by omega,ho,hdo,e,rfl⟩
  ·have hk : k <= m.length := by
    by_cases h:c=0
    ·omega
    ·exact zi hl hm hil' hxd hv h
   have hik:i+k<o.length:=by omega
   have STEP:=Dg.zh (B:=65536) (b:=m) (o:=o) (i:=i) (k:=k) (x:=x) (c:=c) hik hv;have hu:=qj hik;have hul:o.getD (i+k) 0<65536:=Dg.bR hdo aq _;have hyl:m.getD k 0<65536:=Dg.bR hm aq _;have hy:k<m.length->m[k]?=some (m.getD k 0):=qj;have hy0:m.length<=k->m.getD k 0=0:=wL;clear hv;obtain⟨u,hud⟩:∃u,u=o.getD (i+k) 0:=⟨_,rfl⟩;obtain⟨y,hyd⟩:∃y,y=m.getD k 0:=⟨_,rfl⟩;rw[<-hud]at hul hu STEP;rw[<-hyd]at hyl hy hy0 STEP;clear hud hyd;have hxy:x*y<=65535*65535:=cn aa aa;have hxy0:y=0->x*y=0:=fun h=>by rw[h,jE]
   have hc2:(x*y+u+c)/65536<65536:=by
    rw[tF aq];omega
   have hik':(i:Int)+(k:Int)=((i+k:Nat):Int):=by omega
   have hdig:=Dg.gE hdo (j:=i+k) (et (x*y+u+c) (by decide:0<65536));have hms:=map_set o (i+k) ((x*y+u+c)%65536);have hlen:(o.set (i+k) ((x*y+u+c)%65536)).length=L:=by rw[fe];exact ho
   have hcast:((x*y:Nat):Int)=(x:Int)*(y:Int):=Int.natCast_mul x y;have hye:k<m.length\/(m.length<=k/\y=0/\c≠0):=by
    by_cases h:k<m.length
    ·exact .inl h
    ·exact .inr ⟨by omega,hy0 aa,by omega⟩
   rcases hye with h6|⟨h6,h7,h8⟩
   ·have hye:=hy h6;refine zs2 ?_;refine I0 ?_;refine bs ?_;refine PD ?_;refine jy ?_;refine Ii ?_;refine oa ?_;refine lh ?_;refine lX ?_;refine lh ?_;(first|refine fR rfl rfl rfl aj zb15 aj aj ?_|((try refine bn ?_);refine aL1 rfl rfl rfl zb15 ?_));(first|refine fR rfl rfl rfl aj zb14 aj aj ?_|((try refine bn ?_);refine aL1 rfl rfl rfl zb14 ?_));refine tf ?_;refine kH ?_;refine zs2 ?_
    (refine av (aE (sl':=[(0,dN l),(1,dN m),(5, .own 15),(6,zI (i:Nat)),(7,zI ((x*y+u+c:Nat):Int)),(8,zI (k:Nat))]) (ow':=[(15,⟨3,1,o.map hN⟩)]) aO aS) ?_)
    refine zs2 ?_;refine PC ?_;refine zs2 ?_;refine yw ?_;refine jB ?_;simp only[nx,inB];exact⟨m.length+1-(k+1),_,by omega,(aE (sl':=[(0,dN l),(1,dN m),(5, .own 15),(6,zI (i:Nat)),(7,zI (((x*y+u+c)/65536:Nat):Int)),(8,zI ((k+1:Nat):Int))]) (ow':=[(15,⟨3,1,(o.map hN).set (i+k) (hN ((x*y+u+c)%65536))⟩)]) aO aS),k+1,o.set (i+k) ((x*y+u+c)%65536),(x*y+u+c)/65536,rfl,hlen,hdig,hc2,by omega,STEP,by rw[hms]⟩
   ·have h9:=hxy0 h7;refine zs2 ?_;refine I0 ?_;refine bs ?_;refine PD ?_;refine qD ?_;refine zs2 ?_;refine ib ?_
    (refine av (aE (sl':=[(0,dN l),(1,dN m),(5, .own 15),(6,zI (i:Nat)),(7,zI ((x*y+u+c:Nat):Int)),(8,zI (k:Nat))]) (ow':=[(15,⟨3,1,o.map hN⟩)]) aO aS) ?_)
    refine zs2 ?_;refine PC ?_;refine zs2 ?_;refine yw ?_;refine jB ?_;simp only[nx,inB];have hk1:k+1<=m.length\/(k+1<=m.length+1/\(x*y+u+c)/65536=0):=by
     refine .inr ⟨by omega,rN fun h=>?_⟩;have:=zi hl hm hil' hxd STEP h;omega
    exact⟨m.length+1-(k+1),_,by omega,(aE (sl':=[(0,dN l),(1,dN m),(5, .own 15),(6,zI (i:Nat)),(7,zI (((x*y+u+c)/65536:Nat):Int)),(8,zI ((k+1:Nat):Int))]) (ow':=[(15,⟨3,1,(o.map hN).set (i+k) (hN ((x*y+u+c)%65536))⟩)]) aO aS),k+1,o.set (i+k) ((x*y+u+c)%65536),(x*y+u+c)/65536,rfl,hlen,hdig,hc2,hk1,STEP,by rw[hms]⟩
end DW
end
end Go.Proofs.YtcgjmdpcplhanaaGreat
