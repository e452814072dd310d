/- Lemmas for the law: E91 -/
import Derived.Test.YtcgjmdpcplhanaaGreatZv13
namespace Go.Proofs.YtcgjmdpcplhanaaGreat
section
theorem BN{p q:Prop}(h:q)(f:Wq q->p:=by(intro hW;((first|refine eK rfl rfl rfl an zb6 an an ?_|((try refine aS ?_);refine aL1 rfl rfl rfl zb6 ?_)));exact hW.out)):p:=f ⟨h⟩
theorem IC{p q:Prop}(h:q)(f:Wq q->p:=by(intro hW;((first|(first|(refine aHs rfl rfl rfl rfl rfl ?_ ?_;(focus(apply bF;(conv=>lhs;whnf);(first|done|exact rfl|(apply bj;(first|(apply ay;omega)|(apply aA;omega)|assumption|(simp;done)))))))|refine nT rfl rfl rfl rfl rfl cL an qq an an ?_)|((try refine aS ?_);(first|(refine aLs rfl rfl rfl rfl ?_ ?_;(focus(apply bF;(conv=>lhs;whnf);(first|done|exact rfl|(apply bj;(first|(apply ay;omega)|(apply aA;omega)|assumption|(simp;done)))))))|refine aLw rfl rfl rfl rfl cL qq ?_))));exact hW.out)):p:=f ⟨h⟩
theorem BP{p q:Prop}(h:q)(f:Wq q->p:=by(intro hW;((first|(apply ao 26;(focus kernel_rfl);(decide+kernel))|(apply ao 25;(focus kernel_rfl);(decide+kernel))|(apply ao 24;(focus kernel_rfl);(decide+kernel))|(apply ao 23;(focus kernel_rfl);(decide+kernel))|(apply ao 22;(focus kernel_rfl);(decide+kernel))|(apply ao 21;(focus kernel_rfl);(decide+kernel))|(apply ao 20;(focus kernel_rfl);(decide+kernel))|(apply ao 19;(focus kernel_rfl);(decide+kernel)));simp only[eZ,eE,fF,eO]);exact hW.out)):p:=f ⟨h⟩
theorem zb15{p:Prop}(h:p:=by(first|(apply Mr;(exact rfl);(focus((apply aw;(conv=>lhs;whnf);(first|done|exact rfl))));(exact jC);(focus(first|assumption|(intro h;simp at h;done)|(simp;done)));(kernel_rfl))|(apply Mq;(exact rfl);(focus((apply aw;(conv=>lhs;whnf);(first|done|exact rfl))));(exact jC);(kernel_rfl)))):p:=h
theorem BO{p q:Prop}(h:q)(f:Wq q->p:=by(intro hW;((first|(first|(refine aHs rfl rfl rfl rfl rfl ?_ ?_;(focus(apply bF;(conv=>lhs;whnf);(first|done|exact rfl|(apply bj;(first|(apply ay;omega)|(apply aA;omega)|assumption|(simp;done)))))))|refine nT rfl rfl rfl rfl rfl cL an zb15 an an ?_)|((try refine aS ?_);(first|(refine aLs rfl rfl rfl rfl ?_ ?_;(focus(apply bF;(conv=>lhs;whnf);(first|done|exact rfl|(apply bj;(first|(apply ay;omega)|(apply aA;omega)|assumption|(simp;done)))))))|refine aLw rfl rfl rfl rfl cL zb15 ?_))));exact hW.out)):p:=f ⟨h⟩
theorem H5{p q:Prop}(h:q)(f:Wq q->p:=by(intro hW;(refine BP ?_;refine Br ?_;refine fJ ?_;refine fi ?_;refine fi ?_;refine IC ?_;refine BO ?_;refine BN ?_;refine gS ?_);exact hW.out)):p:=f ⟨h⟩
theorem zb23{p:Prop}(h:p:=by(apply oI;(exact rfl);(focus((apply aw;(conv=>lhs;whnf);(first|done|exact rfl))));(focus((apply aw;(conv=>lhs;whnf);(first|done|exact rfl))));(exact rfl);(exact rfl);(focus((first|exact fail)));(exact rfl))):p:=h
theorem H7{p q:Prop}(h:q)(f:Wq q->p:=by(intro hW;(refine BP ?_;refine Hy ?_;refine fJ ?_;refine fi ?_;refine fi ?_;refine IC ?_;refine BO ?_;refine BN ?_;refine gS ?_);exact hW.out)):p:=f ⟨h⟩
end
section
open Go.RowKit
namespace DW
theorem Gv(g:Mx.Mat)(n i:Nat):shB g n i=((bx i).find? (shF g n i)).isSome:=by
 rw[List.isSome_find?];rfl
set_option maxRecDepth 20000
set_option maxHeartbeats 2000000
theorem EB(g:Mx.Mat)(n:Nat)(hl:g.length=n)(h4:n<=4)(hR:Mx.Rc n g)(hb:∀i j,(Mx.at' g i j).natAbs<=1000000):Fn Tryz.prog 130 [dM g] (.sc (.bool (rdB g n))):=by
 have hno:=fun i (hi:i<n)=>EF (g:=g) hi;have hye:=Ay (g:=g) (n:=n);generalize rdB g n=BB at*;refine bq Tryz.func130 ak rfl rfl rfl fun X0=>?_;simp only[aQ];refine fR ?_;refine oS ?_;refine zs1 ?_
 (refine aI (av (sl':=[(0,dM g),(5,zI g.length),(6,zI 0)]) (ow':=[]) aE aH) ?_)
 refine aX (fun r s=>∃i,i<=n/\r=n-i/\(∀a,a<i->(rd0 g a||shB g n a)=false)/\s=⟨[(0,dM g),(5,zI g.length),(6,zI (i:Nat))],[]⟩) (m:=n) ⟨0,aO _,rfl,fun a h=>by omega,rfl⟩ fun r s hs=>?_;obtain⟨i,hi,rfl,hok,rfl⟩:=hs;by_cases hil:i<n
 ·obtain⟨q,hq⟩:=get_some (m:=g) (k:=i) aa;have hql:=hR q (bh hq);obtain⟨x,hx⟩:=get_some (m:=q) (k:=i) aa;have ex:Mx.at' g i i=x:=by unfold Mx.at';rw[Mx.cX hq,aF,hx];rfl
  have hno':=hno i hil;clear hno;have hok2:(rd0 g i||shB g n i)=false->∀a,a<i+1->(rd0 g a||shB g n a)=false:=fun h a ha=>by
   by_cases e:a=i
   ·rw[e];exact h
   ·exact hok a aa
  clear hok hye;have SH:=Eo g n i hil h4 hl hR hb;have hsB:=Gv g n i;obtain⟨b1,hb1⟩:∃b1,b1=shB g n i:=⟨_,rfl⟩;rw[<-hb1]at hno' hok2 hsB;have hSD:b1=false/\shD g n i= .sc (.slice none 0 0)\/b1=true/\∃v,v≠[]/\shD g n i=dI v:=by
   unfold shD
   cases hf:(bx i).find? (shF g n i)with
   |none=>rw[hf]at hsB;exact .inl ⟨hsB,rfl⟩
   |some l=>
    rw[hf]at hsB;refine .inr ⟨hsB,sv n i l,fun e=>?_,rfl⟩;have:=jj List.length e;unfold sv at this;rw[cq,dh]at this;simp at this
  clear hb1 hsB;obtain⟨b0,hb0⟩:∃b0,b0=rd0 g i:=⟨_,rfl⟩;rw[<-hb0]at hno' hok2;refine kZ ?_;refine jd ?_;refine FN ⟨[(0,dM g),(5,zI g.length),(6,zI (i:Nat)),(35,.sc (.bool (b0||b1)))],[]⟩ (fun s hs=>?_) fun K hK=>?_
  ·refine aI hs ?_;clear hb0 SH hSD hb;generalize(b0||b1)=b at*;cases b
   ·have hok3:=hok2 rfl;refine mn ?_;refine zs1 ?_;refine na ?_;refine zs1 ?_;simp only[nx];exact⟨n-(i+1),_,by omega,(av (sl':=[(0,dM g),(5,zI g.length),(6,zI ((i+1:Nat):Int))]) (ow':=[]) aE aH),i+1,by omega,rfl,hok3,rfl⟩
   ·refine mj ?_;obtain rfl:=hno' rfl;refine fR ?_;exact⟨_,Sh.refl,.one (.tmp 2) _ rfl (.tmp 2 rfl)⟩
  ·clear hno' hok2;rcases i with _|i
   ·have hd0:decide (((0:Nat):Int)>0)=false:=rfl;obtain rfl:b0=false:=by rw[hb0];rfl
    clear hb0 hb;rcases hSD with⟨rfl,e⟩|⟨rfl,v,hv,e⟩
    ·rw[e]at SH;clear e;refine zs1 ?_;refine H7 ?_;refine zs1 ?_;exact hK _ (av (sl':=[(0,dM g),(5,zI g.length),(6,zI ((0:Nat):Int)),(35,.sc (.bool false))]) (ow':=[]) aE aH)
    ·rw[e]at SH;clear e;have hv2:v.map zI≠[]:=by simpa using hv
     refine zs1 ?_;refine H7 ?_;refine zs1 ?_;exact hK _ (av (sl':=[(0,dM g),(5,zI g.length),(6,zI ((0:Nat):Int)),(35,.sc (.bool true))]) (ow':=[]) aE aH)
   ·have hd0:decide (((i+1:Nat):Int)>0)=true:=ay aa;obtain⟨q2,hq2⟩:=get_some (m:=g) (k:=i) aa;have hql2:=hR q2 (bh hq2);obtain⟨y,hy⟩:=get_some (m:=q2) (k:=i) aa;have ey:Mx.at' g i i=y:=by unfold Mx.at';rw[Mx.cX hq2,aF,hy];rfl
    have hc:((i+1:Nat):Int)-1=((i:Nat):Int):=by omega
    obtain rfl:b0=decide (x<y):=by
     rw[hb0];unfold rd0;rw[oZ,ex,ey,ay (Nat.succ_pos i),tW]
    clear hb0 hb ex ey;by_cases hxy:x<y
    ·have hxd:decide (x<y)=true:=ay hxy;rw[hxd,qC]at hK;clear hSD SH;refine zs1 ?_;refine BP ?_;refine Br ?_;refine fJ ?_;refine fi ?_;refine fi ?_;(first|(first|(refine aHs rfl rfl rfl rfl rfl ?_ ?_;(focus(apply bF;(conv=>lhs;whnf);(first|done|exact rfl|(apply bj;(first|(apply ay;omega)|(apply aA;omega)|assumption|(simp;done)))))))|refine nT rfl rfl rfl rfl rfl cL an zb23 an an ?_)|((try refine aS ?_);(first|(refine aLs rfl rfl rfl rfl ?_ ?_;(focus(apply bF;(conv=>lhs;whnf);(first|done|exact rfl|(apply bj;(first|(apply ay;omega)|(apply aA;omega)|assumption|(simp;done)))))))|refine aLw rfl rfl rfl rfl cL zb23 ?_)));refine BO ?_;refine BN ?_;refine gS ?_;refine zs1 ?_;exact hK _ (av (sl':=[(0,dM g),(5,zI g.length),(6,zI ((i+1:Nat):Int)),(35,.sc (.bool true))]) (ow':=[]) aE aH)
    ·have hxd:decide (x<y)=false:=aA hxy;rw[hxd,Bool.false_or]at hK;rcases hSD with⟨rfl,e⟩|⟨rfl,v,hv,e⟩
     ·rw[e]at SH;clear e;refine zs1 ?_;refine H5 ?_;refine zs1 ?_;exact hK _ (av (sl':=[(0,dM g),(5,zI g.length),(6,zI ((i+1:Nat):Int)),(35,.sc (.bool false))]) (ow':=[]) aE aH)
     ·rw[e]at SH;clear e;have hv2:v.map zI≠[]:=by simpa using hv
      refine zs1 ?_;refine H5 ?_;refine zs1 ?_;exact hK _ (av (sl':=[(0,dM g),(5,zI g.length),(6,zI ((i+1:Nat):Int)),(35,.sc (.bool true))]) (ow':=[]) aE aH)
 ·obtain rfl:i=n:=by omega
  obtain rfl:=hye hok;clear hno hok;refine oP ?_;refine kV ?_;exact⟨_,Sh.refl,.one (.tmp 2) _ rfl (.tmp 2 rfl)⟩
theorem se(g:Mx.Mat)(c:Int)(hc:c≠0)(CG:Fn Tryz.prog 59 [dM g] (zI c)):Fn Tryz.prog 57 [dM g] (.tp [.sc (.bool false),zI c]):=by
 refine bq Tryz.func57 ak rfl rfl rfl fun X0=>?_;simp only[aQ];refine mZ ?_;refine Bm ?_;refine nI ?_;refine dv ?_;refine jJ ?_;refine jg ?_;refine bU ?_;refine ct ?_;refine Bm ?_;refine cJ ?_;exact⟨_,Sh.refl,.two (.tmp 2) (.tmp 3) _ _ rfl (.tmp 2 rfl) (.tmp 3 rfl)⟩
theorem Km(g:Mx.Mat)(b:Bool)(CG:Fn Tryz.prog 59 [dM g] (zI 0))(RE:Fn Tryz.prog 130 [dM g] (.sc (.bool b))):Fn Tryz.prog 57 [dM g] (.tp [.sc (.bool b),zI 0]):=by
 refine bq Tryz.func57 ak rfl rfl rfl fun X0=>?_;simp only[aQ];refine mZ ?_;refine Bm ?_;refine nI ?_;refine dv ?_;refine iB ?_;refine ct ?_;refine gR ?_;refine zs5 ?_;refine nI ?_;refine dv ?_;exact⟨_,Sh.refl,.two (.tmp 2) (.tmp 3) _ _ rfl (.tmp 2 rfl) (.tmp 3 rfl)⟩
end DW
end
end Go.Proofs.YtcgjmdpcplhanaaGreat
