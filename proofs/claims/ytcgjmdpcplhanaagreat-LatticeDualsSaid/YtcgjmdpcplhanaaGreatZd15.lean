/- Lemmas for the law: E34 -/
import Derived.Test.YtcgjmdpcplhanaaGreatZd14
namespace Go.Proofs.YtcgjmdpcplhanaaGreat
section
theorem C5{p q:Prop}(h:q)(f:Wq q->p:=by(intro hW;((first|(refine aLs rfl rfl rfl rfl ?_ ?_;(focus(apply bh;(conv=>lhs;whnf);(first|done|exact rfl|(apply bg;(first|(apply au;omega)|(apply aw;omega)|assumption|(simp;done)))))))|refine aLw rfl rfl rfl rfl cE yk ?_));exact hW.out)):p:=f ⟨h⟩
theorem zs130{p q:Prop}(h:q)(f:Wq q->p:=by(intro hW;((first|(refine aLs rfl rfl rfl rfl ?_ ?_;(focus(apply bh;(conv=>lhs;whnf);(first|done|exact rfl|(apply bg;(first|(apply au;omega)|(apply aw;omega)|assumption|(simp;done)))))))|refine aLw rfl rfl rfl rfl cE zb14 ?_));exact hW.out)):p:=f ⟨h⟩
theorem Qh{p q:Prop}(h:q)(f:Wq q->p:=by(intro hW;(refine pA ?_;refine yh ?_;refine ir ?_;refine yf ?_;refine zs4 ?_;refine JO ?_;refine jW ?_;refine JO ?_;refine jW ?_;refine zs130 ?_;refine kv ?_;refine zs4 ?_;refine C5 ?_;refine jW ?_;refine C5 ?_;refine jW ?_);exact hW.out)):p:=f ⟨h⟩
theorem Jp{p q:Prop}(h:q)(f:Wq q->p:=by(intro hW;(refine jw ?_;refine Dw ?_;refine yg ?_;refine aX ?_);exact hW.out)):p:=f ⟨h⟩
theorem zs251{p q:Prop}(h:q)(f:Wq q->p:=by(intro hW;(refine jw ?_;refine yg ?_;refine aX ?_);exact hW.out)):p:=f ⟨h⟩
theorem mH{p q:Prop}(h:q)(f:Wq q->p:=by(intro hW;(refine zs2 ?_;refine zs251 ?_;refine zs2 ?_);exact hW.out)):p:=f ⟨h⟩
theorem CU{p q:Prop}(h:q)(f:Wq q->p:=by(intro hW;(refine wF ?_;refine zs4 ?_;refine kU ?_;refine zs5 ?_;refine zs7 ?_;refine aX ?_);exact hW.out)):p:=f ⟨h⟩
theorem C4{p q:Prop}(h:q)(f:Wq q->p:=by(intro hW;((first|(refine aLs rfl rfl rfl rfl ?_ ?_;(focus(apply bh;(conv=>lhs;whnf);(first|done|exact rfl|(apply bg;(first|(apply au;omega)|(apply aw;omega)|assumption|(simp;done)))))))|refine aLw rfl rfl rfl rfl cE vd ?_));exact hW.out)):p:=f ⟨h⟩
theorem Rk{p q:Prop}(h:q)(f:Wq q->p:=by(intro hW;((first|(refine aLs0 rfl rfl rfl rfl ?_ ?_;(focus(apply bh;(conv=>lhs;whnf);(first|done|exact rfl|(apply bg;(first|(apply au;omega)|(apply aw;omega)|assumption|(simp;done)))))))|refine aLw rfl rfl rfl rfl cE si ?_));exact hW.out)):p:=f ⟨h⟩
theorem zs136{p q:Prop}(h:q)(f:Wq q->p:=by(intro hW;((first|(refine B0 rfl rfl rfl rfl ?_ ?_;(focus(apply bh;exact rfl)))|(refine aLs rfl rfl rfl rfl ?_ ?_;(focus(apply bh;(conv=>lhs;whnf);(first|done|exact rfl|(apply bg;(first|(apply au;omega)|(apply aw;omega)|assumption|(simp;done)))))))|refine aLw rfl rfl rfl rfl cE zb1 ?_));exact hW.out)):p:=f ⟨h⟩
theorem zs137{p q:Prop}(h:q)(f:Wq q->p:=by(intro hW;((first|(refine B0 rfl rfl rfl rfl ?_ ?_;(focus(apply bh;exact rfl)))|(refine aLs rfl rfl rfl rfl ?_ ?_;(focus(apply bh;(conv=>lhs;whnf);(first|done|exact rfl|(apply bg;(first|(apply au;omega)|(apply aw;omega)|assumption|(simp;done)))))))|refine aLw rfl rfl rfl rfl cE zb2 ?_));exact hW.out)):p:=f ⟨h⟩
theorem zs135{p q:Prop}(h:q)(f:Wq q->p:=by(intro hW;((first|(refine B0 rfl rfl rfl rfl ?_ ?_;(focus(apply bh;exact rfl)))|(refine aLs rfl rfl rfl rfl ?_ ?_;(focus(apply bh;(conv=>lhs;whnf);(first|done|exact rfl|(apply bg;(first|(apply au;omega)|(apply aw;omega)|assumption|(simp;done)))))))|refine aLw rfl rfl rfl rfl cE yk ?_));exact hW.out)):p:=f ⟨h⟩
theorem zs138{p q:Prop}(h:q)(f:Wq q->p:=by(intro hW;((first|(refine B0 rfl rfl rfl rfl ?_ ?_;(focus(apply bh;exact rfl)))|(refine aLs rfl rfl rfl rfl ?_ ?_;(focus(apply bh;(conv=>lhs;whnf);(first|done|exact rfl|(apply bg;(first|(apply au;omega)|(apply aw;omega)|assumption|(simp;done)))))))|refine aLw rfl rfl rfl rfl cE yj ?_));exact hW.out)):p:=f ⟨h⟩
theorem zs139{p q:Prop}(h:q)(f:Wq q->p:=by(intro hW;((first|(refine aLs rfl rfl rfl rfl ?_ ?_;(focus(apply bh;(conv=>lhs;whnf);(first|done|exact rfl|(apply bg;(first|(apply au;omega)|(apply aw;omega)|assumption|(simp;done)))))))|refine aLw rfl rfl rfl rfl cE zb6 ?_));exact hW.out)):p:=f ⟨h⟩
theorem yT{p q:Prop}(h:q)(f:Wq q->p:=by(intro hW;(refine pA ?_;refine zs91 ?_;refine zs4 ?_;refine C5 ?_;refine jW ?_;refine sb ?_;refine pg ?_;refine Rk ?_;refine zs135 ?_;refine zs136 ?_;refine zs137 ?_;refine zs138 ?_;refine zs139 ?_;refine AU ?_;refine zs4 ?_;refine C5 ?_;refine jW ?_;refine sb ?_;refine pg ?_;refine kT ?_);exact hW.out)):p:=f ⟨h⟩
theorem zs133{p q:Prop}(h:q)(f:Wq q->p:=by(intro hW;((first|(refine aLs rfl rfl rfl rfl ?_ ?_;(focus(apply bh;(conv=>lhs;whnf);(first|done|exact rfl|(apply bg;(first|(apply au;omega)|(apply aw;omega)|assumption|(simp;done)))))))|refine aLw rfl rfl rfl rfl cE zb30 ?_));exact hW.out)):p:=f ⟨h⟩
theorem QA{p q:Prop}(h:q)(f:Wq q->p:=by(intro hW;(refine Qh ?_;refine zs133 ?_;refine kv ?_;refine cK ?_);exact hW.out)):p:=f ⟨h⟩
end
section
open Go.RowKit
namespace DW
set_option maxRecDepth 20000
set_option maxHeartbeats 2000000
theorem CD{X:Nat->Prop}{w:World}{dim den:Int}{m:Mx.Mat}{v:Value}(h:AR X w (dL dim m den) v):∃u,v= .agg #[.int .i64 dim,u,.int .i64 den]/\AR X w (dM m) u:=by
 simp only[dL,AR,ASt,zI]at h;obtain⟨cs,rfl,u1,r1,e1,⟨rfl,_⟩,_,u2,r2,e2,h2,_,u3,r3,e3,⟨rfl,_⟩,_,rfl⟩:=h;have h3:=h2;obtain⟨a,c,rfl,_⟩:=h3;refine⟨_,?_,by simp only[dM,AR];exact h2⟩;have:cs.toList=[.int .i64 dim,.slice a (m.map dI).length c,.int .i64 den]:=by rw[e1,e2,e3];simp[Value.cells]
 exact ke _ (cQ.1 this)
theorem Ps(dim den:Int)(m:List (List Int))(hd:I64 dim)(hd2:I64 den)(hm:m.length<=1000000000)(hr:∀r∈m,r.length<=1000000000):Fn Tryz.prog 33 [dL dim m den] (zI (lck dim m den)):=by
 refine⟨enters_of Tryz.func33 ai rfl,fun X w vs hX hv=>?_⟩;simp only[ATp]at hv;obtain⟨v,rest,e,h1,rfl⟩:=hv;have:vs= #[v]:=cQ.1 e;subst this;obtain⟨u,rfl,h2⟩:=CD h1;exact(Ae dim den m u hd hd2 hm hr w (AA h2)).mono fun e w' ⟨h,hb⟩=>⟨_,h,BW _,hb⟩
theorem Hl(d1 d2 e1 e2:Int)(a b:List (List Int))(ha:a.length<=1000000000)(ha2:∀l∈a,l.length<=1000000000):Fn Tryz.prog 35 [dL d1 a e1,dL d2 b e2] (.sc (.bool (decide (d1=d2)&&decide (e1=e2)&&decide (a=b)))):=by
 have LS:=Tv a b ha ha2;generalize decide (a=b)=q at*;by_cases h1:d1=d2
 ·by_cases h2:e1=e2
  ·subst h1;subst h2;rw[au (rfl:d1=d1),au (rfl:e1=e1),Bool.and_self,sI];refine ba Tryz.func35 ai rfl rfl rfl fun X0=>?_;simp only[aO];refine zs2 ?_;refine Jp ?_;refine zs2 ?_;refine Qh ?_;refine C4 ?_;refine kv ?_;refine cT ?_;exact⟨_,Sh.refl,.one (.tmp 4) _ rfl (.tmp 4 rfl)⟩
  ·subst h1;have hd:decide (e1=e2)=false:=aw h2;rw[hd,Bool.and_false,sH];refine ba Tryz.func35 ai rfl rfl rfl fun X0=>?_;simp only[aO];refine zs2 ?_;refine Jp ?_;refine zs2 ?_;refine QA ?_;refine zs2 ?_;exact⟨_,Sh.refl,.one (.tmp 4) _ rfl (.tmp 4 rfl)⟩
 ·have hd:decide (d1=d2)=false:=aw h1;rw[hd,sH,sH];refine ba Tryz.func35 ai rfl rfl rfl fun X0=>?_;simp only[aO];refine zs2 ?_;refine Jp ?_;refine zs2 ?_;refine QA ?_;refine zs2 ?_;exact⟨_,Sh.refl,.one (.tmp 4) _ rfl (.tmp 4 rfl)⟩
def lgt(dim:Int)(m:List (List Int)):Bool:=!(decide (dim=6)||(decide (8<m.length)&&decide (m.length<=64))||decide (70<m.length))&&m.all (fun l=>decide (l.length<=10))
theorem Tw(dim den:Int)(m:List (List Int)):Fn Tryz.prog 30 [dL dim m den] (.sc (.bool (lgt dim m))):=by
 have W1:=tX dim 6 6;by_cases c1:dim=6
 ·subst c1;rw[show(decide ((6:Int)<=6)&&decide ((6:Int)<=6))=true from rfl]at W1;have EC:lgt 6 m=false:=rfl;refine ba Tryz.func30 ai rfl rfl rfl fun X0=>?_;simp only[aO];refine mH ?_;refine yT ?_;refine kV ?_;rw[EC];exact⟨_,Sh.refl, .one (.tmp 2) _ rfl (.tmp 2 rfl)⟩
 ·rw[show(decide (6<=dim)&&decide (dim<=6))=false by rw[vq,bN,bN];omega]at W1;by_cases c2:8<m.length
  ·have h8:decide ((m.length:Int)>8)=true:=au aa;by_cases c3:m.length<=64
   ·have h64:decide ((m.length:Int)<=64)=true:=au aa;have EC:lgt dim m=false:=by unfold lgt;rw[au c2,au c3];simp
    refine ba Tryz.func30 ai rfl rfl rfl fun X0=>?_;simp only[aO];refine mH ?_;refine yT ?_;refine kV ?_;rw[EC];exact⟨_,Sh.refl, .one (.tmp 2) _ rfl (.tmp 2 rfl)⟩
   ·have h64:decide ((m.length:Int)<=64)=false:=aw aa;by_cases c4:70<m.length
    ·have h70:decide ((m.length:Int)>70)=true:=au aa;have EC:lgt dim m=false:=by unfold lgt;rw[au c4];simp
     refine ba Tryz.func30 ai rfl rfl rfl fun X0=>?_;simp only[aO];refine mH ?_;refine yT ?_;refine kV ?_;rw[EC];exact⟨_,Sh.refl, .one (.tmp 2) _ rfl (.tmp 2 rfl)⟩
    ·have h70:decide ((m.length:Int)>70)=false:=aw aa;have EC:lgt dim m=m.all (fun l=>decide (l.length<=10)):=by unfold lgt;rw[aw c1,aw c3,aw c4,Bool.and_false,Bool.or_self,Bool.or_self,Bool.not_false,sI]
     rw[EC];refine ba Tryz.func30 ai rfl rfl rfl fun X0=>?_;simp only[aO];refine mH ?_;refine yT ?_;refine oh ?_
     (refine ay (aq (sl':=[(1, .pt (dL dim m den)),(3,zI 0)]) (ow':=[]) az aD) ?_)
     refine bc (fun r s=>∃k,k<=m.length/\r=m.length-k/\(∀l∈m.take k,l.length<=10)/\s=⟨[(1, .pt (dL dim m den)),(3,zI (k:Nat))],[]⟩) (m:=m.length) ⟨0,aQ _,rfl,fun z h=>absurd h aK,rfl⟩ fun r s hs=>?_;obtain⟨k,hk,rfl,hin,rfl⟩:=hs;by_cases hkl:k<m.length
     ·obtain⟨l,hl⟩:=get_some hkl;by_cases hb:l.length<=10
      ·refine mG ?_;refine bw ?_;refine CU ?_;refine jx ?_;simp only[nx,inB];exact⟨m.length-(k+1),_,by omega,(aq (sl':=[(1, .pt (dL dim m den)),(3,zI ((k+1:Nat):Int))]) (ow':=[]) az aD),k+1,by omega,rfl,fun x hx=>by
        rw[bq hl,eY]at hx;rcases hx with hx|hx
        ·exact hin x hx
        ·rw[bU.1 hx];exact hb,rfl⟩
      ·have EZ : m.all (fun l => decide (l.length <= 10)) = false := by
        rw[zf];exact⟨l,bj hl,by simpa using hb⟩
       refine mG ?_;refine bw ?_;refine CU ?_;refine kV ?_;rw[EZ];exact⟨_,Sh.refl, .one (.tmp 2) _ rfl (.tmp 2 rfl)⟩
     ·obtain rfl:k=m.length:=by omega
      have EZ:m.all (fun l=>decide (l.length<=10))=true:=by
       rw[du];intro l hl;exact au (hin l (by rw[et];exact hl))
      refine mG ?_;refine bp ?_;refine qS ?_;rw[EZ];exact⟨_,Sh.refl, .one (.tmp 2) _ rfl (.tmp 2 rfl)⟩
  ·have h8:decide ((m.length:Int)>8)=false:=aw aa;have h70:decide ((m.length:Int)>70)=false:=aw aa;have EC:lgt dim m=m.all (fun l=>decide (l.length<=10)):=by unfold lgt;rw[aw c1,aw c2,aw (show¬70<m.length by omega),sH,Bool.or_self,Bool.or_self,Bool.not_false,sI]
   rw[EC];refine ba Tryz.func30 ai rfl rfl rfl fun X0=>?_;simp only[aO];refine mH ?_;refine yT ?_;refine oh ?_
   (refine ay (aq (sl':=[(1, .pt (dL dim m den)),(3,zI 0)]) (ow':=[]) az aD) ?_)
   refine bc (fun r s=>∃k,k<=m.length/\r=m.length-k/\(∀l∈m.take k,l.length<=10)/\s=⟨[(1, .pt (dL dim m den)),(3,zI (k:Nat))],[]⟩) (m:=m.length) ⟨0,aQ _,rfl,fun z h=>absurd h aK,rfl⟩ fun r s hs=>?_;obtain⟨k,hk,rfl,hin,rfl⟩:=hs;by_cases hkl:k<m.length
   ·obtain⟨l,hl⟩:=get_some hkl;by_cases hb:l.length<=10
    ·refine mG ?_;refine bw ?_;refine CU ?_;refine jx ?_;simp only[nx,inB];exact⟨m.length-(k+1),_,by omega,(aq (sl':=[(1, .pt (dL dim m den)),(3,zI ((k+1:Nat):Int))]) (ow':=[]) az aD),k+1,by omega,rfl,fun x hx=>by
      rw[bq hl,eY]at hx;rcases hx with hx|hx
      ·exact hin x hx
      ·rw[bU.1 hx];exact hb,rfl⟩
    ·have EZ : m.all (fun l => decide (l.length <= 10)) = false := by
      rw[zf];exact⟨l,bj hl,by simpa using hb⟩
     refine mG ?_;refine bw ?_;refine CU ?_;refine kV ?_;rw[EZ];exact⟨_,Sh.refl, .one (.tmp 2) _ rfl (.tmp 2 rfl)⟩
   ·obtain rfl:k=m.length:=by omega
    have EZ:m.all (fun l=>decide (l.length<=10))=true:=by
     rw[du];intro l hl;exact au (hin l (by rw[et];exact hl))
    refine mG ?_;refine bp ?_;refine qS ?_;rw[EZ];exact⟨_,Sh.refl, .one (.tmp 2) _ rfl (.tmp 2 rfl)⟩
end DW
end
end Go.Proofs.YtcgjmdpcplhanaaGreat
